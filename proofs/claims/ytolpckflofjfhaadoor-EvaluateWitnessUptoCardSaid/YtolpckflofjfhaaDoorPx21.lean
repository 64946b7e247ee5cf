import Derived.Test.YtolpckflofjfhaaDoorPx0
import Derived.Test.YtolpckflofjfhaaDoorPx12
import Derived.Test.YtolpckflofjfhaaDoorPx17
namespace Go.Proofs.YtolpckflofjfhaaDoor.P
open Go.RowKit Go.Proofs.YtolpckflofjfhaaDoorW.PrintWords Go.Proofs.YtolpckflofjfhaaDoorW.PrintLast Go.Proofs.YtolpckflofjfhaaDoorW.PrintMore
attribute [local go_sem] max2_int min2_int max_two min_two max_three min_three max_four min_four
set_option linter.unusedVariables false
set_option maxHeartbeats 8000000
set_option maxRecDepth 100000
set_option linter.unusedSimpArgs false
mutual
def pentaglotref26_known.j0 : Nat → List (S73) → List Int → Int → List (S62) → Int → ByteArray → List (S92) → Int → Int → List (S32) → Option (Bool)
 | 0, _, _, _, _, _, _, _, _, _, _ => none
 | k + 1, x262000, x262001, x262002, x262003, x263000, x263001, x263002, x263003, x263004, x263005 => (pentaglotref22_Binds.f x263000).bind fun t267 => (if t267 = true then ((pentaglotref26_Individuals.f k x262000 x262001 x262002 x263001).bind fun bt268 => (if bt268.2 = true then (pentaglotref26_known.j1 k x262000 x262001 x262002 x262003 x263000 x263001 x263002 x263003 x263004 x263005) else (some false))) else (pentaglotref26_known.j1 k x262000 x262001 x262002 x262003 x263000 x263001 x263002 x263003 x263004 x263005))
def pentaglotref26_known.j1 : Nat → List (S73) → List Int → Int → List (S62) → Int → ByteArray → List (S92) → Int → Int → List (S32) → Option (Bool)
 | 0, _, _, _, _, _, _, _, _, _, _ => none
 | k + 1, x262000, x262001, x262002, x262003, x263000, x263001, x263002, x263003, x263004, x263005 => pentaglotref26_known.l0 k 0 x262000 x262001 x262002 x262003 x263000 x263001 x263002 x263003 x263004 x263005
def pentaglotref26_known.l0 : Nat → Int → List (S73) → List Int → Int → List (S62) → Int → ByteArray → List (S92) → Int → Int → List (S32) → Option (Bool)
 | 0, _, _, _, _, _, _, _, _, _, _, _ => none
 | k + 1, x9, x262000, x262001, x262002, x262003, x263000, x263001, x263002, x263003, x263004, x263005 => if x9 < (x263005.length : Int) then (if 0 ≤ x9 then ((pentaglotref26_known.f k x262000 x262001 x262002 x262003 ((rd_T32 x263005 x9).f0) ((rd_T32 x263005 x9).f1) ((rd_T32 x263005 x9).f2) ((rd_T32 x263005 x9).f3) ((rd_T32 x263005 x9).f4) ((rd_T32 x263005 x9).f5)).bind fun t273 => (if t273 = true then (pentaglotref26_known.l0 k (wrap64 (x9 + 1)) x262000 x262001 x262002 x262003 x263000 x263001 x263002 x263003 x263004 x263005) else (some false))) else (none)) else (some true)
def pentaglotref26_known.f : Nat → List (S73) → List Int → Int → List (S62) → Int → ByteArray → List (S92) → Int → Int → List (S32) → Option (Bool)
 | 0, _, _, _, _, _, _, _, _, _, _ => none
 | k + 1, l0_0, l0_1, a0_2, l0_3, a1_0, a1_1, l1_2, a1_3, a1_4, l1_5 => if a1_0 = 10 then ((pentaglotref26_Interval.f k l0_0 l0_1 a0_2 a1_3 a1_4).bind fun bt263 => (if bt263.2 = true then (pentaglotref26_known.j0 k l0_0 l0_1 a0_2 l0_3 a1_0 a1_1 l1_2 a1_3 a1_4 l1_5) else (some false))) else (pentaglotref26_known.j0 k l0_0 l0_1 a0_2 l0_3 a1_0 a1_1 l1_2 a1_3 a1_4 l1_5)
end
def pentaglotref26_known.T12 : Bool × List (List Nat × List Nat) := (true, [([], []), ([], []), ([1], [1]), ([], []), ([2, 3], [2, 3]), ([4], [4]), ([0, 5], [0, 5]), ([6], [6])])
def pentaglotref26_known.B12 : List Nat := [0, 0, 2, 0, 14, 30, 63, 127]
theorem pentaglotref26_known.tab12 : rtab .any (opsOf Tryd.f51 12) = pentaglotref26_known.T12 := by kernel_rfl
theorem pentaglotref26_known.bits12 : waitsOk pentaglotref26_known.T12.2 pentaglotref26_known.B12 = true := by kernel_rfl
theorem pentaglotref26_known.calls (k : Nat) : ∀ (A0_0 : Option Addr) (c0_0 : Nat) (l0_0 : List (S73)) (A0_1 : Option Addr) (c0_1 : Nat) (l0_1 : List Int) (a0_2 : Int) (A0_3 : Option Addr) (c0_3 : Nat) (l0_3 : List (S62)) (a1_0 : Int) (a1_1 : ByteArray) (A1_2 : Option Addr) (c1_2 : Nat) (l1_2 : List (S92)) (a1_3 : Int) (a1_4 : Int) (A1_5 : Option Addr) (c1_5 : Nat) (l1_5 : List (S32)) (r : Bool) (w : World) (hr0_0 : Kd.C k73 w A0_0 l0_0.length l0_0) (hc0_0 : l0_0.length ≤ c0_0) (hr0_1 : Kd.C (Kd.int .i64) w A0_1 l0_1.length l0_1) (hc0_1 : l0_1.length ≤ c0_1) (hr0_3 : Kd.C k62 w A0_3 l0_3.length l0_3) (hc0_3 : l0_3.length ≤ c0_3) (hr1_2 : Kd.C k92 w A1_2 l1_2.length l1_2) (hc1_2 : l1_2.length ≤ c1_2) (hr1_5 : Kd.C k32 w A1_5 l1_5.length l1_5) (hc1_5 : l1_5.length ≤ c1_5) (h : pentaglotref26_known.f k l0_0 l0_1 a0_2 l0_3 a1_0 a1_1 l1_2 a1_3 a1_4 l1_5 = some r),
  Calls Tryd.prog 51 #[.agg #[.slice A0_0 l0_0.length c0_0, .slice A0_1 l0_1.length c0_1, .int .i64 a0_2, .slice A0_3 l0_3.length c0_3], .agg #[.int .i64 a1_0, .string a1_1, .slice A1_2 l1_2.length c1_2, .int .i64 a1_3, .int .i64 a1_4, .slice A1_5 l1_5.length c1_5]] w fun e w' => e = .returned (.bool r) ∧ Below w.heap.size w w' := by
 induction k using Nat.strongRecOn with
 | _ k ih =>
 intro A0_0 c0_0 l0_0 A0_1 c0_1 l0_1 a0_2 A0_3 c0_3 l0_3 a1_0 a1_1 A1_2 c1_2 l1_2 a1_3 a1_4 A1_5 c1_5 l1_5 r w hr0_0 hc0_0 hr0_1 hc0_1 hr0_3 hc0_3 hr1_2 hc1_2 hr1_5 hc1_5 h
 cases k with
 | zero => exact absurd h (by simp [pentaglotref26_known.f])
 | succ k =>
 simp only [pentaglotref26_known.f] at h
 have hu28 := Tryd.underlying28
 have hu32 := Tryd.underlying32
 have hu25 := Tryd.underlying25
 have HR0_0 := mk_ hr0_0; have HC0_0 := mk_ hc0_0; clear hr0_0 hc0_0
 have HR0_1 := mk_ hr0_1; have HC0_1 := mk_ hc0_1; clear hr0_1 hc0_1
 have HR0_3 := mk_ hr0_3; have HC0_3 := mk_ hc0_3; clear hr0_3 hc0_3
 have HR1_2 := mk_ hr1_2; have HC1_2 := mk_ hc1_2; clear hr1_2 hc1_2
 have HR1_5 := mk_ hr1_5; have HC1_5 := mk_ hc1_5; clear hr1_5 hc1_5
 have HB := mk_ (Below.refl w.heap.size w)
 have H : (if a1_0 = 10 then ((pentaglotref26_Interval.f k l0_0 l0_1 a0_2 a1_3 a1_4).bind fun bt263 => (if bt263.2 = true then (pentaglotref26_known.j0 k l0_0 l0_1 a0_2 l0_3 a1_0 a1_1 l1_2 a1_3 a1_4 l1_5) else (some false))) else (pentaglotref26_known.j0 k l0_0 l0_1 a0_2 l0_3 a1_0 a1_1 l1_2 a1_3 a1_4 l1_5)) = some r := h
 clear h
 have HC3 := mk_ H
 clear H
 go_enter Tryd.func51, Tryd.ntmps51
 go_upto_if 12 with (first | ((with_reducible refine gate_dst (N := 2) rfl ?_); refine bx_ 2 #[.slice A0_0 l0_0.length c0_0, .slice A0_1 l0_1.length c0_1, .int .i64 a0_2, .slice A0_3 l0_3.length c0_3] 28 ?_; intro gb261 hg w4 hbox hb; have BK261 := mk_ (hbox); have GW261 := mk_ (gs_ hg (be_ HB)); have GE261 := mk_ (gs_ hg (be_ HB)); replace HB := mk_ (below_step (be_ HB) hb); clear hb hbox hg) | ((with_reducible refine gate_dst (N := 3) rfl ?_); refine bx_ 3 #[.int .i64 a1_0, .string a1_1, .slice A1_2 l1_2.length c1_2, .int .i64 a1_3, .int .i64 a1_4, .slice A1_5 l1_5.length c1_5] 32 ?_; intro gb262 hg w5 hbox hb; have n0_ := mk_ (bb_ BK261 hb); have n1_ := mk_ (below_step (be1_ HB GE261) hb); have n2_ := mk_ (hbox); have n3_ := mk_ (gs_ hg (be1_ HB GE261)); have n4_ := mk_ (gs_ hg (be1_ HB GE261)); have n5_ := mk_ ((by rw [hg]; exact Nat.ne_of_lt (blk_lt (g := gb261) (o := .cells #[.slice A0_0 l0_0.length c0_0, .slice A0_1 l0_1.length c0_1, .int .i64 a0_2, .slice A0_3 l0_3.length c0_3] 28 (0, 0)) (bq_ BK261)) : gb261 ≠ gb262)); have n6_ := mk_ ((by rw [hg]; exact Nat.ne_of_gt (blk_lt (g := gb261) (o := .cells #[.slice A0_0 l0_0.length c0_0, .slice A0_1 l0_1.length c0_1, .int .i64 a0_2, .slice A0_3 l0_3.length c0_3] 28 (0, 0)) (bq_ BK261)) : gb262 ≠ gb261)); clear BK261; clear HB; have BK261 := n0_; have HB := n1_; have BK262 := n2_; have GW262 := n3_; have GE262 := n4_; have NB261_262 := n5_; have NB262_261 := n6_; clear n0_ n1_ n2_ n3_ n4_ n5_ n6_; clear hb hbox hg; have hnb6 := NB262_261.out; have hnc6 := NB261_262.out; obtain ⟨_, _, _, _, _, _, _, _, _, _, _, _⟩ := hb6_ BK262))
 (try simp only [Act.put, List.setIfInBounds_toArray, List.set_cons_zero, List.set_cons_succ])
 go_cut [] (fun wc => ∃ (kq : Nat), Aside0 (pentaglotref26_known.j0 kq l0_0 l0_1 a0_2 l0_3 a1_0 a1_1 l1_2 a1_3 a1_4 l1_5 = some r) ∧ Aside0 (kq ≤ k) ∧ Aside0 (wc.heap[gb261]? = some (.cells #[(.slice A0_0 l0_0.length c0_0), (.slice A0_1 l0_1.length c0_1), .int .i64 a0_2, (.slice A0_3 l0_3.length c0_3)] 28 (0, 0))) ∧ Aside0 (wc.heap[gb262]? = some (.cells #[.int .i64 a1_0, .string a1_1, (.slice A1_2 l1_2.length c1_2), .int .i64 a1_3, .int .i64 a1_4, (.slice A1_5 l1_5.length c1_5)] 32 (0, 0))) ∧ Aside0 (Below w.heap.size w wc))
 case first =>
  have H := HC3.out
  clear HC3
  by_cases c8 : a1_0 = 10
  ·rw [if_pos c8] at H
   obtain ⟨c8b0, c8b1⟩ := eb_ c8
   clear c8
   (first | rw [c8b0] | (simp only [i64_w, i32_w]; rw [c8b0]) | skip)
   replace H := Option.bind_eq_some_iff.mp H
   obtain ⟨⟨t263, t266⟩, A90, H⟩ := H
   replace H : (if t266 = true then (pentaglotref26_known.j0 k l0_0 l0_1 a0_2 l0_3 a1_0 a1_1 l1_2 a1_3 a1_4 l1_5) else (some false)) = some r := H
   have A9 := mk_ A90
   clear A90
   by_cases c10 : t266 = true
   ·subst c10
    rw [if_pos rfl] at H
    have H' := mk_ H
    clear H
    have hnb11 := NB261_262.out
    have hnc11 := NB262_261.out
    obtain ⟨_, _, _, _, _, _, _, _⟩ := hb4_ BK261
    obtain ⟨_, _, _, _, _, _, _, _, _, _, _, _⟩ := hb6_ BK262
    go_wp2_with (first | ((with_reducible refine gate_callee (f := 23) rfl ?_); refine gl_ (some 20) Tryd.func23 #[.agg #[.slice A0_0 l0_0.length c0_0, .slice A0_1 l0_1.length c0_1, .int .i64 a0_2], .int .i64 a1_3, .int .i64 a1_4] ?_; (with_reducible refine (pentaglotref26_Interval.calls k _ _ l0_0 _ _ l0_1 a0_2 a1_3 a1_4 t263 true _ ?side1 ?side2 ?side3 ?side4 A9.out).mono ?_); (case side1 => exact cs_ (Kd.C_below HR0_0.out HB.out)); (case side2 => exact HC0_0.out); (case side3 => exact cs_ (Kd.C_below HR0_1.out HB.out)); (case side4 => exact HC0_1.out); rintro e w14 ⟨v264, rfl, ho0, hb⟩; refine ⟨_, rfl, ?_⟩; have HO265 := mk_ (Kd.R_lower ho0 (below_size (be2_ HB GE261 GE262))); replace BK261 := mk_ (bb_ BK261 hb); replace BK262 := mk_ (bb_ BK262 hb); replace HB := mk_ (below_step (be2_ HB GE261 GE262) hb)))
    go_meet
    case rel => exact ⟨_, H', ⟨by first | omega | exact Nat.le_refl _⟩, ⟨bq_ BK261⟩, ⟨bq_ BK262⟩, ⟨be2_ HB GE261 GE262⟩⟩
   ·replace c10 := Bool.eq_false_iff.mpr c10
    subst c10
    rw [if_neg nf_] at H
    obtain rfl := Option.some.inj H
    have hnb15 := NB261_262.out
    have hnc15 := NB262_261.out
    obtain ⟨_, _, _, _, _, _, _, _⟩ := hb4_ BK261
    obtain ⟨_, _, _, _, _, _, _, _, _, _, _, _⟩ := hb6_ BK262
    go_wp2_with (first | ((with_reducible refine gate_callee (f := 23) rfl ?_); refine gl_ (some 20) Tryd.func23 #[.agg #[.slice A0_0 l0_0.length c0_0, .slice A0_1 l0_1.length c0_1, .int .i64 a0_2], .int .i64 a1_3, .int .i64 a1_4] ?_; (with_reducible refine (pentaglotref26_Interval.calls k _ _ l0_0 _ _ l0_1 a0_2 a1_3 a1_4 t263 false _ ?side1 ?side2 ?side3 ?side4 A9.out).mono ?_); (case side1 => exact cs_ (Kd.C_below HR0_0.out HB.out)); (case side2 => exact HC0_0.out); (case side3 => exact cs_ (Kd.C_below HR0_1.out HB.out)); (case side4 => exact HC0_1.out); rintro e w18 ⟨v264, rfl, ho0, hb⟩; refine ⟨_, rfl, ?_⟩; have HO265 := mk_ (Kd.R_lower ho0 (below_size (be2_ HB GE261 GE262))); replace BK261 := mk_ (bb_ BK261 hb); replace BK262 := mk_ (bb_ BK262 hb); replace HB := mk_ (below_step (be2_ HB GE261 GE262) hb)))
    go_ret
    exact ⟨er_, be2_ HB GE261 GE262⟩
  ·rw [if_neg c8] at H
   obtain ⟨c8b0, c8b1⟩ := en_ c8
   (first | rw [c8b0] | (simp only [i64_w, i32_w]; rw [c8b0]) | skip)
   have H' := mk_ H
   clear H
   go_wp2
   go_meet
   case rel => exact ⟨_, H', ⟨by first | omega | exact Nat.le_refl _⟩, ⟨bq_ BK261⟩, ⟨bq_ BK262⟩, ⟨be2_ HB GE261 GE262⟩⟩
 case rest =>
  clear HC3
  obtain ⟨kq, HA, HJ2, BK261, BK262, HB⟩ := hcut
  cases kq with
  | zero => exact absurd HA.out (by simp [pentaglotref26_known.j0])
  | succ kj2 =>
   have H := HA.out
   clear HA
   simp only [pentaglotref26_known.j0] at H
   replace H := Option.bind_eq_some_iff.mp H
   obtain ⟨t267, A190, H⟩ := H
   replace H : (if t267 = true then ((pentaglotref26_Individuals.f kj2 l0_0 l0_1 a0_2 a1_1).bind fun bt268 => (if bt268.2 = true then (pentaglotref26_known.j1 kj2 l0_0 l0_1 a0_2 l0_3 a1_0 a1_1 l1_2 a1_3 a1_4 l1_5) else (some false))) else (pentaglotref26_known.j1 kj2 l0_0 l0_1 a0_2 l0_3 a1_0 a1_1 l1_2 a1_3 a1_4 l1_5)) = some r := H
   have A19 := mk_ A190
   clear A190
   have HC20 := mk_ H
   clear H
   have hnb21 := NB262_261.out
   have hnc21 := NB261_262.out
   obtain ⟨_, _, _, _, _, _, _, _, _, _, _, _⟩ := hb6_ BK262
   go_upto_if 27 with (first | ((with_reducible refine gate_callee (f := 28) rfl ?_); refine gl_ (some 27) Tryd.func28 #[.int .i64 a1_0] ?_; (with_reducible refine (pentaglotref22_Binds.calls a1_0 t267 _ A19.out).mono ?_); rintro e w' ⟨rfl, ⟨nd, rfl⟩⟩; refine ⟨_, rfl, ?_⟩))
   (try simp only [Act.put, List.setIfInBounds_toArray, List.set_cons_zero, List.set_cons_succ])
   go_cut [] (fun wc => ∃ (kq : Nat), Aside0 (pentaglotref26_known.j1 kq l0_0 l0_1 a0_2 l0_3 a1_0 a1_1 l1_2 a1_3 a1_4 l1_5 = some r) ∧ Aside0 (kq ≤ kj2) ∧ Aside0 (wc.heap[gb261]? = some (.cells #[(.slice A0_0 l0_0.length c0_0), (.slice A0_1 l0_1.length c0_1), .int .i64 a0_2, (.slice A0_3 l0_3.length c0_3)] 28 (0, 0))) ∧ Aside0 (wc.heap[gb262]? = some (.cells #[.int .i64 a1_0, .string a1_1, (.slice A1_2 l1_2.length c1_2), .int .i64 a1_3, .int .i64 a1_4, (.slice A1_5 l1_5.length c1_5)] 32 (0, 0))) ∧ Aside0 (Below w.heap.size w wc))
   case first =>
    have H := HC20.out
    clear HC20
    by_cases c23 : t267 = true
    ·subst c23
     rw [if_pos rfl] at H
     replace H := Option.bind_eq_some_iff.mp H
     obtain ⟨⟨t268, t271⟩, A240, H⟩ := H
     replace H : (if t271 = true then (pentaglotref26_known.j1 kj2 l0_0 l0_1 a0_2 l0_3 a1_0 a1_1 l1_2 a1_3 a1_4 l1_5) else (some false)) = some r := H
     have A24 := mk_ A240
     clear A240
     by_cases c25 : t271 = true
     ·subst c25
      rw [if_pos rfl] at H
      have H' := mk_ H
      clear H
      have hnb26 := NB261_262.out
      have hnc26 := NB262_261.out
      obtain ⟨_, _, _, _, _, _, _, _⟩ := hb4_ BK261
      obtain ⟨_, _, _, _, _, _, _, _, _, _, _, _⟩ := hb6_ BK262
      go_wp2_with (first | ((with_reducible refine gate_callee (f := 48) rfl ?_); refine gl_ (some 33) Tryd.func48 #[.agg #[.slice A0_0 l0_0.length c0_0, .slice A0_1 l0_1.length c0_1, .int .i64 a0_2], .string a1_1] ?_; (with_reducible refine (pentaglotref26_Individuals.calls kj2 (fun k_ => k_ < w.heap.size) _ _ l0_0 _ _ l0_1 a0_2 a1_1 t268 true _ ?side1 ?side2 ?side3 A24.out).mono ?_); (case side1 => exact Kd.V_mk HC0_0.out (Kd.F_below (Kd.C_F k73_heap HR0_0.out) (be2_ HB GE261 GE262))); (case side2 => exact cs_ (Kd.C_below HR0_1.out HB.out)); (case side3 => exact HC0_1.out); rintro e w29 ⟨v269, rfl, ho0, hb⟩; refine ⟨_, rfl, ?_⟩; have n0_ := mk_ (Kd.V_lower (Kd.V_mono (ok' := fun k_ => k_ ≠ gb261 ∧ k_ ≠ gb262) ho0 (fun k_ hk_ => ⟨Or.elim hk_ (fun hs_ => fun e_ => Nat.not_le.2 hs_ (by rw [e_]; exact GW261.out)) (fun hn_ => (Kd.freshB (g := gb261) (o := .cells #[.slice A0_0 l0_0.length c0_0, .slice A0_1 l0_1.length c0_1, .int .i64 a0_2, .slice A0_3 l0_3.length c0_3] 28 (0, 0)) (bq_ BK261) k_ hn_)), Or.elim hk_ (fun hs_ => fun e_ => Nat.not_le.2 hs_ (by rw [e_]; exact GW262.out)) (fun hn_ => (Kd.freshB (g := gb262) (o := .cells #[.int .i64 a1_0, .string a1_1, .slice A1_2 l1_2.length c1_2, .int .i64 a1_3, .int .i64 a1_4, .slice A1_5 l1_5.length c1_5] 32 (0, 0)) (bq_ BK262) k_ hn_))⟩)) (below_size (be2_ HB GE261 GE262))); have n1_ := mk_ (bb_ BK261 hb); have n2_ := mk_ (bb_ BK262 hb); have n3_ := mk_ (below_step (be2_ HB GE261 GE262) hb); clear BK261; clear BK262; clear HB; have HO270 := n0_; have BK261 := n1_; have BK262 := n2_; have HB := n3_; clear n0_ n1_ n2_ n3_))
      go_meet
      case rel => exact ⟨_, H', ⟨by have := HJ2.out; first | omega | exact Nat.le_refl _⟩, ⟨bq_ BK261⟩, ⟨bq_ BK262⟩, ⟨be2_ HB GE261 GE262⟩⟩
     ·replace c25 := Bool.eq_false_iff.mpr c25
      subst c25
      rw [if_neg nf_] at H
      obtain rfl := Option.some.inj H
      have hnb30 := NB261_262.out
      have hnc30 := NB262_261.out
      obtain ⟨_, _, _, _, _, _, _, _⟩ := hb4_ BK261
      obtain ⟨_, _, _, _, _, _, _, _, _, _, _, _⟩ := hb6_ BK262
      go_wp2_with (first | ((with_reducible refine gate_callee (f := 48) rfl ?_); refine gl_ (some 33) Tryd.func48 #[.agg #[.slice A0_0 l0_0.length c0_0, .slice A0_1 l0_1.length c0_1, .int .i64 a0_2], .string a1_1] ?_; (with_reducible refine (pentaglotref26_Individuals.calls kj2 (fun k_ => k_ < w.heap.size) _ _ l0_0 _ _ l0_1 a0_2 a1_1 t268 false _ ?side1 ?side2 ?side3 A24.out).mono ?_); (case side1 => exact Kd.V_mk HC0_0.out (Kd.F_below (Kd.C_F k73_heap HR0_0.out) (be2_ HB GE261 GE262))); (case side2 => exact cs_ (Kd.C_below HR0_1.out HB.out)); (case side3 => exact HC0_1.out); rintro e w33 ⟨v269, rfl, ho0, hb⟩; refine ⟨_, rfl, ?_⟩; have n0_ := mk_ (Kd.V_lower (Kd.V_mono (ok' := fun k_ => k_ ≠ gb261 ∧ k_ ≠ gb262) ho0 (fun k_ hk_ => ⟨Or.elim hk_ (fun hs_ => fun e_ => Nat.not_le.2 hs_ (by rw [e_]; exact GW261.out)) (fun hn_ => (Kd.freshB (g := gb261) (o := .cells #[.slice A0_0 l0_0.length c0_0, .slice A0_1 l0_1.length c0_1, .int .i64 a0_2, .slice A0_3 l0_3.length c0_3] 28 (0, 0)) (bq_ BK261) k_ hn_)), Or.elim hk_ (fun hs_ => fun e_ => Nat.not_le.2 hs_ (by rw [e_]; exact GW262.out)) (fun hn_ => (Kd.freshB (g := gb262) (o := .cells #[.int .i64 a1_0, .string a1_1, .slice A1_2 l1_2.length c1_2, .int .i64 a1_3, .int .i64 a1_4, .slice A1_5 l1_5.length c1_5] 32 (0, 0)) (bq_ BK262) k_ hn_))⟩)) (below_size (be2_ HB GE261 GE262))); have n1_ := mk_ (bb_ BK261 hb); have n2_ := mk_ (bb_ BK262 hb); have n3_ := mk_ (below_step (be2_ HB GE261 GE262) hb); clear BK261; clear BK262; clear HB; have HO270 := n0_; have BK261 := n1_; have BK262 := n2_; have HB := n3_; clear n0_ n1_ n2_ n3_))
      go_ret
      exact ⟨er_, be2_ HB GE261 GE262⟩
    ·replace c23 := Bool.eq_false_iff.mpr c23
     subst c23
     rw [if_neg nf_] at H
     have H' := mk_ H
     clear H
     go_wp2
     go_meet
     case rel => exact ⟨_, H', ⟨by have := HJ2.out; first | omega | exact Nat.le_refl _⟩, ⟨bq_ BK261⟩, ⟨bq_ BK262⟩, ⟨be2_ HB GE261 GE262⟩⟩
   case rest =>
    clear HC20
    obtain ⟨kq, HA, HJ19, BK261, BK262, HB⟩ := hcut
    cases kq with
    | zero => exact absurd HA.out (by simp [pentaglotref26_known.j1])
    | succ kj19 =>
     have H := HA.out
     clear HA
     simp only [pentaglotref26_known.j1] at H
     have H' := mk_ H
     clear H
     go_wp2
     go_loopg [9] kj19 (fun kq v9 w' => ∃ (x9_3 : Int), v9 = .int .i64 x9_3 ∧ Aside0 (pentaglotref26_known.l0 kq x9_3 l0_0 l0_1 a0_2 l0_3 a1_0 a1_1 l1_2 a1_3 a1_4 l1_5 = some r) ∧ Aside0 (kq ≤ kj19) ∧ Aside0 (w'.heap[gb261]? = some (.cells #[(.slice A0_0 l0_0.length c0_0), (.slice A0_1 l0_1.length c0_1), .int .i64 a0_2, (.slice A0_3 l0_3.length c0_3)] 28 (0, 0))) ∧ Aside0 (w'.heap[gb262]? = some (.cells #[.int .i64 a1_0, .string a1_1, (.slice A1_2 l1_2.length c1_2), .int .i64 a1_3, .int .i64 a1_4, (.slice A1_5 l1_5.length c1_5)] 32 (0, 0))) ∧ Aside0 (Below w.heap.size w w'))
     case atStart => exact ⟨(0), fi_, H', ⟨Nat.le_refl _⟩, ⟨bq_ BK261⟩, ⟨bq_ BK262⟩, ⟨be2_ HB GE261 GE262⟩⟩
     case round =>
      clear H'
      obtain ⟨x9_3, rfl, HA, HK3, BK261, BK262, HB⟩ := hrel
      cases gk with
      | zero => exact absurd HA.out (by simp [pentaglotref26_known.l0])
      | succ k3 =>
       have H := HA.out
       clear HA
       simp only [pentaglotref26_known.l0] at H
       by_cases c34 : x9_3 < (l1_5.length : Int)
       ·rw [if_pos c34] at H
        have c34b0 : decide (x9_3 < (l1_5.length : Int)) = true := decide_eq_true c34
        clear c34
        by_cases c35 : 0 ≤ x9_3
        ·rw [if_pos c35] at H
         have c35b0 : decide (0 ≤ x9_3) = true := decide_eq_true c35
         clear c35
         replace H := Option.bind_eq_some_iff.mp H
         obtain ⟨t273, A360, H⟩ := H
         replace H : (if t273 = true then (pentaglotref26_known.l0 k3 (wrap64 (x9_3 + 1)) l0_0 l0_1 a0_2 l0_3 a1_0 a1_1 l1_2 a1_3 a1_4 l1_5) else (some false)) = some r := H
         have A36 := mk_ A360
         clear A360
         by_cases c37 : t273 = true
         ·subst c37
          rw [if_pos rfl] at H
          have H' := mk_ H
          clear H
          have hnb38 := NB262_261.out
          have hnc38 := NB261_262.out
          obtain ⟨_, _, _, _, _, _, _, _, _, _, _, _⟩ := hb6_ BK262
          try go_wp2
          replace BK261 := mk_ (blk_drew BK261.out)
          replace BK262 := mk_ (blk_drew BK262.out)
          replace HB := mk_ (below_drew1 HB.out)
          have p272 : 0 ≤ (x9_3 : Int) := of_decide_eq_true (by first | (with_reducible assumption) | assumption)
          have q272 : x9_3 < (l1_5.length : Int) := of_decide_eq_true (by first | (with_reducible assumption) | assumption)
          obtain ⟨ad272, A272_2, c272_2, A272_5, c272_5, e272, hx272_0, hx272_1, hx272_2, hx272_3, hx272_4, hx272_5, hl272_2, hi272_2, hl272_5, hi272_5⟩ := at_T32 HR1_5.out x9_3 p272 q272
          have hw272_5 := hx272_5
          have hw272_4 := hx272_4
          have hw272_3 := hx272_3
          have hw272_2 := hx272_2
          have hw272_1 := hx272_1
          have hw272_0 := hx272_0
          cases e272
          replace hx272_0 := cb_ HB hx272_0
          replace hx272_1 := cb_ HB hx272_1
          replace hx272_2 := cb_ HB hx272_2
          replace hx272_3 := cb_ HB hx272_3
          replace hx272_4 := cb_ HB hx272_4
          replace hx272_5 := cb_ HB hx272_5
          have HR272_2 := mk_ hi272_2; have HC272_2 := mk_ hl272_2; clear hi272_2 hl272_2
          have HR272_5 := mk_ hi272_5; have HC272_5 := mk_ hl272_5; clear hi272_5 hl272_5
          replace p272 := eq_true p272
          replace q272 := eq_true q272
          refine start_ (n := 8) (S := fun w' => w'.cell? ⟨gb261, 0, none⟩ = some (.slice A0_0 l0_0.length c0_0) ∧ w'.cell? ⟨gb261, 1, none⟩ = some (.slice A0_1 l0_1.length c0_1) ∧ w'.cell? ⟨gb261, 2, none⟩ = some (.int .i64 a0_2) ∧ w'.cell? ⟨gb261, 3, none⟩ = some (.slice A0_3 l0_3.length c0_3) ∧ w'.cell? ⟨gb262, 0, none⟩ = some (.int .i64 a1_0) ∧ w'.cell? ⟨gb262, 1, none⟩ = some (.string a1_1) ∧ w'.cell? ⟨gb262, 2, none⟩ = some (.slice A1_2 l1_2.length c1_2) ∧ w'.cell? ⟨gb262, 3, none⟩ = some (.int .i64 a1_3) ∧ w'.cell? ⟨gb262, 4, none⟩ = some (.int .i64 a1_4) ∧ w'.cell? ⟨gb262, 5, none⟩ = some (.slice (some ad272) l1_5.length c1_5) ∧ w'.cell? (ad272.add ((x9_3).toNat * 6)) = some (.int .i64 ((rd_T32 l1_5 x9_3).f0)) ∧ w'.cell? ⟨(ad272.add ((x9_3).toNat * 6)).block, (ad272.add ((x9_3).toNat * 6)).off + 1, none⟩ = some (.string ((rd_T32 l1_5 x9_3).f1)) ∧ w'.cell? ⟨(ad272.add ((x9_3).toNat * 6)).block, (ad272.add ((x9_3).toNat * 6)).off + 2, none⟩ = some (.slice A272_2 ((rd_T32 l1_5 x9_3).f2).length c272_2) ∧ w'.cell? ⟨(ad272.add ((x9_3).toNat * 6)).block, (ad272.add ((x9_3).toNat * 6)).off + 3, none⟩ = some (.int .i64 ((rd_T32 l1_5 x9_3).f3)) ∧ w'.cell? ⟨(ad272.add ((x9_3).toNat * 6)).block, (ad272.add ((x9_3).toNat * 6)).off + 4, none⟩ = some (.int .i64 ((rd_T32 l1_5 x9_3).f4)) ∧ w'.cell? ⟨(ad272.add ((x9_3).toNat * 6)).block, (ad272.add ((x9_3).toNat * 6)).off + 5, none⟩ = some (.slice A272_5 ((rd_T32 l1_5 x9_3).f5).length c272_5)) (ds := []) #[false, false, false, false, false, false, false, false] (by kernel_rfl) rfl rfl ⟨(blk_cell BK261.out 0).trans rfl, (blk_cell BK261.out 1).trans rfl, (blk_cell BK261.out 2).trans rfl, (blk_cell BK261.out 3).trans rfl, (blk_cell BK262.out 0).trans rfl, (blk_cell BK262.out 1).trans rfl, (blk_cell BK262.out 2).trans rfl, (blk_cell BK262.out 3).trans rfl, (blk_cell BK262.out 4).trans rfl, (blk_cell BK262.out 5).trans rfl, ((HB.out.cell (World.block_lt_of_cell? w _ hw272_0)).trans hw272_0), ((HB.out.cell (World.block_lt_of_cell? w _ hw272_1)).trans hw272_1), ((HB.out.cell (World.block_lt_of_cell? w _ hw272_2)).trans hw272_2), ((HB.out.cell (World.block_lt_of_cell? w _ hw272_3)).trans hw272_3), ((HB.out.cell (World.block_lt_of_cell? w _ hw272_4)).trans hw272_4), ((HB.out.cell (World.block_lt_of_cell? w _ hw272_5)).trans hw272_5)⟩ (fun hHeld => ?_); refine with_tabW pentaglotref26_known.tab12 pentaglotref26_known.bits12 (fun HT_ HW_ => ?_)
          generalize wr.drew = w40 at BK261 BK262 HB HR272_2 HR272_5 hx272_0 hx272_1 hx272_2 hx272_3 hx272_4 hx272_5 hHeld ⊢
          refine pu_ 1 (some 46) ?_
          refine pu_ 3 (some 48) ?_
          refine tk_ 0 (some 45) hHeld ?_
          refine tk_ 2 (some 47) hHeld ?_
          refine pu_ 4 (some 49) ?_
          refine tk_ 5 (some 50) hHeld ?_
          refine on_ 6 (some 51) (fun K hK => ?_)
          refine goes_ Tryd.func51 (by kernel_rfl) rfl #[.agg #[.slice A0_0 l0_0.length c0_0, .slice A0_1 l0_1.length c0_1, .int .i64 a0_2, .slice A0_3 l0_3.length c0_3], .agg #[.int .i64 ((rd_T32 l1_5 x9_3).f0), .string ((rd_T32 l1_5 x9_3).f1), .slice A272_2 ((rd_T32 l1_5 x9_3).f2).length c272_2, .int .i64 ((rd_T32 l1_5 x9_3).f3), .int .i64 ((rd_T32 l1_5 x9_3).f4), .slice A272_5 ((rd_T32 l1_5 x9_3).f5).length c272_5]] (by rfl) rfl rfl (by (try simp only [List.map_toArray, List.map_cons, List.map_nil]); first | done | rfl | (simp only [List.length_drop, List.length_take]; rfl)) ?_
          with_reducible refine (ih k3 (by have := HJ2.out; have := HJ19.out; have := HK3.out; omega) _ _ l0_0 _ _ l0_1 a0_2 _ _ l0_3 ((rd_T32 l1_5 x9_3).f0) ((rd_T32 l1_5 x9_3).f1) _ _ ((rd_T32 l1_5 x9_3).f2) ((rd_T32 l1_5 x9_3).f3) ((rd_T32 l1_5 x9_3).f4) _ _ ((rd_T32 l1_5 x9_3).f5) true _ ?side1 ?side2 ?side3 ?side4 ?side5 ?side6 ?side7 ?side8 ?side9 ?side10 A36.out).mono ?_
          (case side1 => exact cs_ (Kd.C_below HR0_0.out HB.out))
          (case side2 => exact HC0_0.out)
          (case side3 => exact cs_ (Kd.C_below HR0_1.out HB.out))
          (case side4 => exact HC0_1.out)
          (case side5 => exact cs_ (Kd.C_below HR0_3.out HB.out))
          (case side6 => exact HC0_3.out)
          (case side7 => exact cs_ (Kd.C_below HR272_2.out HB.out))
          (case side8 => exact HC272_2.out)
          (case side9 => exact cs_ (Kd.C_below HR272_5.out HB.out))
          (case side10 => exact HC272_5.out)
          rintro e w41 ⟨rfl, hb⟩
          refine ⟨_, rfl, ?_⟩
          replace BK261 := mk_ (bb_ BK261 hb)
          replace BK262 := mk_ (bb_ BK262 hb)
          replace HB := mk_ (below_step (be2_ HB GE261 GE262) hb)
          refine hK.out _ _ ⟨(blk_cell BK261.out 0).trans rfl, (blk_cell BK261.out 1).trans rfl, (blk_cell BK261.out 2).trans rfl, (blk_cell BK261.out 3).trans rfl, (blk_cell BK262.out 0).trans rfl, (blk_cell BK262.out 1).trans rfl, (blk_cell BK262.out 2).trans rfl, (blk_cell BK262.out 3).trans rfl, (blk_cell BK262.out 4).trans rfl, (blk_cell BK262.out 5).trans rfl, ((HB.out.cell (World.block_lt_of_cell? w _ hw272_0)).trans hw272_0), ((HB.out.cell (World.block_lt_of_cell? w _ hw272_1)).trans hw272_1), ((HB.out.cell (World.block_lt_of_cell? w _ hw272_2)).trans hw272_2), ((HB.out.cell (World.block_lt_of_cell? w _ hw272_3)).trans hw272_3), ((HB.out.cell (World.block_lt_of_cell? w _ hw272_4)).trans hw272_4), ((HB.out.cell (World.block_lt_of_cell? w _ hw272_5)).trans hw272_5)⟩ (fun hHeld => ?_)
          clear hK K
          refine no_ (N := some 51) ?_
          refine pu_ 7 (some 52) ?_
          refine done_ (done_of HT_.out (by kernel_rfl)) ?_
          try go_wp2
          go_roundg k3
          case measure => have := HJ2.out; have := HJ19.out; have := HK3.out; omega
          case rel => exact ⟨(wrap64 (x9_3 + 1)), fi_, H', ⟨by have := HJ2.out; have := HJ19.out; have := HK3.out; omega⟩, ⟨bq_ BK261⟩, ⟨bq_ BK262⟩, ⟨be2_ HB GE261 GE262⟩⟩
         ·replace c37 := Bool.eq_false_iff.mpr c37
          subst c37
          rw [if_neg nf_] at H
          obtain rfl := Option.some.inj H
          have hnb42 := NB262_261.out
          have hnc42 := NB261_262.out
          obtain ⟨_, _, _, _, _, _, _, _, _, _, _, _⟩ := hb6_ BK262
          try go_wp2
          replace BK261 := mk_ (blk_drew BK261.out)
          replace BK262 := mk_ (blk_drew BK262.out)
          replace HB := mk_ (below_drew1 HB.out)
          have p272 : 0 ≤ (x9_3 : Int) := of_decide_eq_true (by first | (with_reducible assumption) | assumption)
          have q272 : x9_3 < (l1_5.length : Int) := of_decide_eq_true (by first | (with_reducible assumption) | assumption)
          obtain ⟨ad272, A272_2, c272_2, A272_5, c272_5, e272, hx272_0, hx272_1, hx272_2, hx272_3, hx272_4, hx272_5, hl272_2, hi272_2, hl272_5, hi272_5⟩ := at_T32 HR1_5.out x9_3 p272 q272
          have hw272_5 := hx272_5
          have hw272_4 := hx272_4
          have hw272_3 := hx272_3
          have hw272_2 := hx272_2
          have hw272_1 := hx272_1
          have hw272_0 := hx272_0
          cases e272
          replace hx272_0 := cb_ HB hx272_0
          replace hx272_1 := cb_ HB hx272_1
          replace hx272_2 := cb_ HB hx272_2
          replace hx272_3 := cb_ HB hx272_3
          replace hx272_4 := cb_ HB hx272_4
          replace hx272_5 := cb_ HB hx272_5
          have HR272_2 := mk_ hi272_2; have HC272_2 := mk_ hl272_2; clear hi272_2 hl272_2
          have HR272_5 := mk_ hi272_5; have HC272_5 := mk_ hl272_5; clear hi272_5 hl272_5
          replace p272 := eq_true p272
          replace q272 := eq_true q272
          refine start_ (n := 8) (S := fun w' => w'.cell? ⟨gb261, 0, none⟩ = some (.slice A0_0 l0_0.length c0_0) ∧ w'.cell? ⟨gb261, 1, none⟩ = some (.slice A0_1 l0_1.length c0_1) ∧ w'.cell? ⟨gb261, 2, none⟩ = some (.int .i64 a0_2) ∧ w'.cell? ⟨gb261, 3, none⟩ = some (.slice A0_3 l0_3.length c0_3) ∧ w'.cell? ⟨gb262, 0, none⟩ = some (.int .i64 a1_0) ∧ w'.cell? ⟨gb262, 1, none⟩ = some (.string a1_1) ∧ w'.cell? ⟨gb262, 2, none⟩ = some (.slice A1_2 l1_2.length c1_2) ∧ w'.cell? ⟨gb262, 3, none⟩ = some (.int .i64 a1_3) ∧ w'.cell? ⟨gb262, 4, none⟩ = some (.int .i64 a1_4) ∧ w'.cell? ⟨gb262, 5, none⟩ = some (.slice (some ad272) l1_5.length c1_5) ∧ w'.cell? (ad272.add ((x9_3).toNat * 6)) = some (.int .i64 ((rd_T32 l1_5 x9_3).f0)) ∧ w'.cell? ⟨(ad272.add ((x9_3).toNat * 6)).block, (ad272.add ((x9_3).toNat * 6)).off + 1, none⟩ = some (.string ((rd_T32 l1_5 x9_3).f1)) ∧ w'.cell? ⟨(ad272.add ((x9_3).toNat * 6)).block, (ad272.add ((x9_3).toNat * 6)).off + 2, none⟩ = some (.slice A272_2 ((rd_T32 l1_5 x9_3).f2).length c272_2) ∧ w'.cell? ⟨(ad272.add ((x9_3).toNat * 6)).block, (ad272.add ((x9_3).toNat * 6)).off + 3, none⟩ = some (.int .i64 ((rd_T32 l1_5 x9_3).f3)) ∧ w'.cell? ⟨(ad272.add ((x9_3).toNat * 6)).block, (ad272.add ((x9_3).toNat * 6)).off + 4, none⟩ = some (.int .i64 ((rd_T32 l1_5 x9_3).f4)) ∧ w'.cell? ⟨(ad272.add ((x9_3).toNat * 6)).block, (ad272.add ((x9_3).toNat * 6)).off + 5, none⟩ = some (.slice A272_5 ((rd_T32 l1_5 x9_3).f5).length c272_5)) (ds := []) #[false, false, false, false, false, false, false, false] (by kernel_rfl) rfl rfl ⟨(blk_cell BK261.out 0).trans rfl, (blk_cell BK261.out 1).trans rfl, (blk_cell BK261.out 2).trans rfl, (blk_cell BK261.out 3).trans rfl, (blk_cell BK262.out 0).trans rfl, (blk_cell BK262.out 1).trans rfl, (blk_cell BK262.out 2).trans rfl, (blk_cell BK262.out 3).trans rfl, (blk_cell BK262.out 4).trans rfl, (blk_cell BK262.out 5).trans rfl, ((HB.out.cell (World.block_lt_of_cell? w _ hw272_0)).trans hw272_0), ((HB.out.cell (World.block_lt_of_cell? w _ hw272_1)).trans hw272_1), ((HB.out.cell (World.block_lt_of_cell? w _ hw272_2)).trans hw272_2), ((HB.out.cell (World.block_lt_of_cell? w _ hw272_3)).trans hw272_3), ((HB.out.cell (World.block_lt_of_cell? w _ hw272_4)).trans hw272_4), ((HB.out.cell (World.block_lt_of_cell? w _ hw272_5)).trans hw272_5)⟩ (fun hHeld => ?_); refine with_tabW pentaglotref26_known.tab12 pentaglotref26_known.bits12 (fun HT_ HW_ => ?_)
          generalize wr.drew = w44 at BK261 BK262 HB HR272_2 HR272_5 hx272_0 hx272_1 hx272_2 hx272_3 hx272_4 hx272_5 hHeld ⊢
          refine pu_ 1 (some 46) ?_
          refine pu_ 3 (some 48) ?_
          refine tk_ 0 (some 45) hHeld ?_
          refine tk_ 2 (some 47) hHeld ?_
          refine pu_ 4 (some 49) ?_
          refine tk_ 5 (some 50) hHeld ?_
          refine on_ 6 (some 51) (fun K hK => ?_)
          refine goes_ Tryd.func51 (by kernel_rfl) rfl #[.agg #[.slice A0_0 l0_0.length c0_0, .slice A0_1 l0_1.length c0_1, .int .i64 a0_2, .slice A0_3 l0_3.length c0_3], .agg #[.int .i64 ((rd_T32 l1_5 x9_3).f0), .string ((rd_T32 l1_5 x9_3).f1), .slice A272_2 ((rd_T32 l1_5 x9_3).f2).length c272_2, .int .i64 ((rd_T32 l1_5 x9_3).f3), .int .i64 ((rd_T32 l1_5 x9_3).f4), .slice A272_5 ((rd_T32 l1_5 x9_3).f5).length c272_5]] (by rfl) rfl rfl (by (try simp only [List.map_toArray, List.map_cons, List.map_nil]); first | done | rfl | (simp only [List.length_drop, List.length_take]; rfl)) ?_
          with_reducible refine (ih k3 (by have := HJ2.out; have := HJ19.out; have := HK3.out; omega) _ _ l0_0 _ _ l0_1 a0_2 _ _ l0_3 ((rd_T32 l1_5 x9_3).f0) ((rd_T32 l1_5 x9_3).f1) _ _ ((rd_T32 l1_5 x9_3).f2) ((rd_T32 l1_5 x9_3).f3) ((rd_T32 l1_5 x9_3).f4) _ _ ((rd_T32 l1_5 x9_3).f5) false _ ?side1 ?side2 ?side3 ?side4 ?side5 ?side6 ?side7 ?side8 ?side9 ?side10 A36.out).mono ?_
          (case side1 => exact cs_ (Kd.C_below HR0_0.out HB.out))
          (case side2 => exact HC0_0.out)
          (case side3 => exact cs_ (Kd.C_below HR0_1.out HB.out))
          (case side4 => exact HC0_1.out)
          (case side5 => exact cs_ (Kd.C_below HR0_3.out HB.out))
          (case side6 => exact HC0_3.out)
          (case side7 => exact cs_ (Kd.C_below HR272_2.out HB.out))
          (case side8 => exact HC272_2.out)
          (case side9 => exact cs_ (Kd.C_below HR272_5.out HB.out))
          (case side10 => exact HC272_5.out)
          rintro e w45 ⟨rfl, hb⟩
          refine ⟨_, rfl, ?_⟩
          replace BK261 := mk_ (bb_ BK261 hb)
          replace BK262 := mk_ (bb_ BK262 hb)
          replace HB := mk_ (below_step (be2_ HB GE261 GE262) hb)
          refine hK.out _ _ ⟨(blk_cell BK261.out 0).trans rfl, (blk_cell BK261.out 1).trans rfl, (blk_cell BK261.out 2).trans rfl, (blk_cell BK261.out 3).trans rfl, (blk_cell BK262.out 0).trans rfl, (blk_cell BK262.out 1).trans rfl, (blk_cell BK262.out 2).trans rfl, (blk_cell BK262.out 3).trans rfl, (blk_cell BK262.out 4).trans rfl, (blk_cell BK262.out 5).trans rfl, ((HB.out.cell (World.block_lt_of_cell? w _ hw272_0)).trans hw272_0), ((HB.out.cell (World.block_lt_of_cell? w _ hw272_1)).trans hw272_1), ((HB.out.cell (World.block_lt_of_cell? w _ hw272_2)).trans hw272_2), ((HB.out.cell (World.block_lt_of_cell? w _ hw272_3)).trans hw272_3), ((HB.out.cell (World.block_lt_of_cell? w _ hw272_4)).trans hw272_4), ((HB.out.cell (World.block_lt_of_cell? w _ hw272_5)).trans hw272_5)⟩ (fun hHeld => ?_)
          clear hK K
          refine no_ (N := some 51) ?_
          refine pu_ 7 (some 52) ?_
          refine done_ (done_of HT_.out (by kernel_rfl)) ?_
          try go_wp2
          go_ret
          exact ⟨er_, be2_ HB GE261 GE262⟩
        ·rw [if_neg c35] at H
         exact absurd H (by simp)
       ·rw [if_neg c34] at H
        have c34b0 : decide (x9_3 < (l1_5.length : Int)) = false := decide_eq_false c34
        clear c34
        obtain rfl := Option.some.inj H
        have hnb46 := NB262_261.out
        have hnc46 := NB261_262.out
        obtain ⟨_, _, _, _, _, _, _, _, _, _, _, _⟩ := hb6_ BK262
        go_wp2
        go_ret
        exact ⟨er_, be2_ HB GE261 GE262⟩
end Go.Proofs.YtolpckflofjfhaaDoor.P
