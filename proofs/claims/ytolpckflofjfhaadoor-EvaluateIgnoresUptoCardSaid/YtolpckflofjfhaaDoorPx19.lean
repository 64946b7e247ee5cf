-- printed by wip/tools/xprint.py
import Derived.Test.YtolpckflofjfhaaDoorPx0
import Derived.Test.YtolpckflofjfhaaDoorPx18
namespace Go.Proofs.YtolpckflofjfhaaDoor.P
open Go.RowKit Go.Proofs.YtolpckflofjfhaaDoorW.PrintWords Go.Proofs.YtolpckflofjfhaaDoorW.PrintLast Go.Proofs.YtolpckflofjfhaaDoorW.PrintMore
attribute [local go_sem] max2_int min2_int max_two min_two max_three min_three max_four min_four
set_option linter.unusedVariables false
set_option maxHeartbeats 8000000
set_option maxRecDepth 100000
set_option linter.unusedSimpArgs false

mutual
def pentaglotref26_Interval.j0 : Nat → Int → Int → Int → List (S73) → List Int → Int → Option (List Int × Bool)
 | 0, _, _, _, _, _, _ => none
 | k + 1, x2, x8, x9, x249000, x249001, x249002 => if x2 = (-1) then (pentaglotref26_Interval.j1 k x8 x9) else ((pentaglotref26_place.f k x249000 x249001 x249002 x2).bind fun t251 => (pentaglotref26_Interval.j1 k x8 t251))
def pentaglotref26_Interval.j1 : Nat → Int → Int → Option (List Int × Bool)
 | 0, _, _ => none
 | k + 1, x8, x9 => if x8 < 0 then (pentaglotref26_Interval.j2 k x8 x9 true) else (pentaglotref26_Interval.j2 k x8 x9 (decide (x9 < 0)))
def pentaglotref26_Interval.j2 : Nat → Int → Int → Bool → Option (List Int × Bool)
 | 0, _, _, _ => none
 | k + 1, x8, x9, x30 => if x30 = true then (some (([] : List Int), false)) else (pentaglotref26_Interval.l0 k x9 (([] : List Int)) x8)
def pentaglotref26_Interval.l0 : Nat → Int → List Int → Int → Option (List Int × Bool)
 | 0, _, _, _ => none
 | k + 1, x9, x10, x11 => if x11 < x9 then (if x10.length < 17592186044416 then (pentaglotref26_Interval.l0 k x9 (x10 ++ [x11]) (wrap64 (x11 + 1))) else (none)) else (some (x10, true))
end
def pentaglotref26_Interval.f (k : Nat) (l0_0 : List (S73)) (l0_1 : List Int) (a0_2 : Int) (a1 : Int) (a2 : Int) : Option (List Int × Bool) := (pentaglotref26_Last.f l0_0 l0_1 a0_2).bind fun t249 => (if a1 = (-1) then (pentaglotref26_Interval.j0 k a2 0 (wrap64 (t249 + 1)) l0_0 l0_1 a0_2) else ((pentaglotref26_place.f k l0_0 l0_1 a0_2 a1).bind fun t250 => (pentaglotref26_Interval.j0 k a2 t250 (wrap64 (t249 + 1)) l0_0 l0_1 a0_2)))
theorem pentaglotref26_Interval.calls (k : Nat) (A0_0 : Option Addr) (c0_0 : Nat) (l0_0 : List (S73)) (A0_1 : Option Addr) (c0_1 : Nat) (l0_1 : List Int) (a0_2 : Int) (a1 : Int) (a2 : Int) (r1 : List Int) (r2 : Bool) (w : World) (hr0_0 : Kd.C k73 w A0_0 l0_0.length l0_0) (hc0_0 : l0_0.length ≤ c0_0) (hr0_1 : Kd.C (Kd.int .i64) w A0_1 l0_1.length l0_1) (hc0_1 : l0_1.length ≤ c0_1) (h : pentaglotref26_Interval.f k l0_0 l0_1 a0_2 a1 a2 = some (r1, r2)) :
  Calls Tryd.prog 23 #[.agg #[.slice A0_0 l0_0.length c0_0, .slice A0_1 l0_1.length c0_1, .int .i64 a0_2], .int .i64 a1, .int .i64 a2] w fun e w' => ∃ v0_ : Value, e = .returned (.tuple #[v0_, .bool r2]) ∧ Kd.R (Kd.int .i64) 3 w' w.heap.size (fun _ => True) v0_ r1 ∧ Below w.heap.size w w' := by
 have hu25 := Tryd.underlying25
 have HR0_0 := mk_ hr0_0
 have HC0_0 := mk_ hc0_0
 clear hr0_0 hc0_0
 have HR0_1 := mk_ hr0_1
 have HC0_1 := mk_ hc0_1
 clear hr0_1 hc0_1
 have HB := mk_ (Below.refl w.heap.size w)
 have H : ((pentaglotref26_Last.f l0_0 l0_1 a0_2).bind fun t249 => (if a1 = (-1) then (pentaglotref26_Interval.j0 k a2 0 (wrap64 (t249 + 1)) l0_0 l0_1 a0_2) else ((pentaglotref26_place.f k l0_0 l0_1 a0_2 a1).bind fun t250 => (pentaglotref26_Interval.j0 k a2 t250 (wrap64 (t249 + 1)) l0_0 l0_1 a0_2)))) = some (r1, r2) := h
 clear h
 replace H := Option.bind_eq_some_iff.mp H
 obtain ⟨t249, A40, H⟩ := H
 replace H : (if a1 = (-1) then (pentaglotref26_Interval.j0 k a2 0 (wrap64 (t249 + 1)) l0_0 l0_1 a0_2) else ((pentaglotref26_place.f k l0_0 l0_1 a0_2 a1).bind fun t250 => (pentaglotref26_Interval.j0 k a2 t250 (wrap64 (t249 + 1)) l0_0 l0_1 a0_2))) = some (r1, r2) := H
 have A4 := mk_ A40
 clear A40
 have HC5 := mk_ H
 clear H
 go_enter Tryd.func23, Tryd.ntmps23
 go_upto_if 16 with (first | ((with_reducible refine gate_dst (N := 3) rfl ?_); refine bx_ 3 #[.slice A0_0 l0_0.length c0_0, .slice A0_1 l0_1.length c0_1, .int .i64 a0_2] 25 ?_; intro gb248 hg w6 hbox hb; have BK248 := mk_ (hbox); have GW248 := mk_ (gs_ hg (be_ HB)); have GE248 := mk_ (gs_ hg (be_ HB)); replace HB := mk_ (below_step (be_ HB) hb); clear hb hbox hg; obtain ⟨_, _, _, _, _, _⟩ := hb3_ BK248) | ((with_reducible refine gate_callee (f := 19) rfl ?_); refine gl_ (some 13) Tryd.func19 #[.agg #[.slice A0_0 l0_0.length c0_0, .slice A0_1 l0_1.length c0_1, .int .i64 a0_2]] ?_; (with_reducible refine (pentaglotref26_Last.calls _ _ l0_0 _ _ l0_1 a0_2 t249 _ ?side1 ?side2 ?side3 ?side4 A4.out).mono ?_); (case side1 => exact cs_ (Kd.C_below HR0_0.out HB.out)); (case side2 => exact HC0_0.out); (case side3 => exact cs_ (Kd.C_below HR0_1.out HB.out)); (case side4 => exact HC0_1.out); rintro e w8 ⟨rfl, hb⟩; refine ⟨_, rfl, ?_⟩; replace BK248 := mk_ (bb_ BK248 hb); replace HB := mk_ (below_step (be1_ HB GE248) hb); (try clear hb); (try clear hb2); (try clear hk); (try clear hi)))
 (try simp only [Act.put, List.setIfInBounds_toArray, List.set_cons_zero, List.set_cons_succ])
 go_cut [8] (fun v8 wc => ∃ (kq : Nat) (x8_4 : Int), v8 = .int .i64 x8_4 ∧ Aside0 (pentaglotref26_Interval.j0 kq a2 x8_4 (wrap64 (t249 + 1)) l0_0 l0_1 a0_2 = some (r1, r2)) ∧ Aside0 (kq ≤ k) ∧ Aside0 (wc.heap[gb248]? = some (.cells #[(.slice A0_0 l0_0.length c0_0), (.slice A0_1 l0_1.length c0_1), .int .i64 a0_2] 25 (0, 0))) ∧ Aside0 (Below w.heap.size w wc))
 case first =>
  have H := HC5.out
  clear HC5
  by_cases c9 : a1 = (-1)
  ·rw [if_pos c9] at H
   obtain ⟨c9b0, c9b1⟩ := eb_ c9
   clear c9
   (first | rw [c9b0] | (simp only [i64_w, i32_w]; rw [c9b0]) | skip)
   have H' := mk_ H
   clear H
   go_wp2
   go_meet
   case rel => exact ⟨_, (0), fi_, H', ⟨by first | omega | exact Nat.le_refl _⟩, ⟨bq_ BK248⟩, ⟨be1_ HB GE248⟩⟩
  ·rw [if_neg c9] at H
   obtain ⟨c9b0, c9b1⟩ := en_ c9
   (first | rw [c9b0] | (simp only [i64_w, i32_w]; rw [c9b0]) | skip)
   replace H := Option.bind_eq_some_iff.mp H
   obtain ⟨t250, A100, H⟩ := H
   replace H : (pentaglotref26_Interval.j0 k a2 t250 (wrap64 (t249 + 1)) l0_0 l0_1 a0_2) = some (r1, r2) := H
   have A10 := mk_ A100
   clear A100
   have H' := mk_ H
   clear H
   obtain ⟨_, _, _, _, _, _⟩ := hb3_ BK248
   go_wp2_with (first | ((with_reducible refine gate_callee (f := 46) rfl ?_); refine gl_ (some 19) Tryd.func46 #[.agg #[.slice A0_0 l0_0.length c0_0, .slice A0_1 l0_1.length c0_1, .int .i64 a0_2], .int .i64 a1] ?_; (with_reducible refine (pentaglotref26_place.calls k _ _ l0_0 _ _ l0_1 a0_2 a1 t250 _ ?side1 ?side2 ?side3 ?side4 A10.out).mono ?_); (case side1 => exact cs_ (Kd.C_below HR0_0.out HB.out)); (case side2 => exact HC0_0.out); (case side3 => exact cs_ (Kd.C_below HR0_1.out HB.out)); (case side4 => exact HC0_1.out); rintro e w12 ⟨rfl, hb⟩; refine ⟨_, rfl, ?_⟩; replace BK248 := mk_ (bb_ BK248 hb); replace HB := mk_ (below_step (be1_ HB GE248) hb); (try clear hb); (try clear hb2); (try clear hk); (try clear hi)))
   go_meet
   case rel => exact ⟨_, (t250), fi_, H', ⟨by first | omega | exact Nat.le_refl _⟩, ⟨bq_ BK248⟩, ⟨be1_ HB GE248⟩⟩
 case rest =>
  clear HC5
  obtain ⟨kq, x8_4, rfl, HA, HJ4, BK248, HB⟩ := hcut
  cases kq with
  | zero => exact absurd HA.out (by simp [pentaglotref26_Interval.j0])
  | succ kj4 =>
   have H := HA.out
   clear HA
   simp only [pentaglotref26_Interval.j0] at H
   have HC13 := mk_ H
   clear H
   go_upto_if 21 with (fail)
   go_cut [9] (fun v9 wc => ∃ (kq : Nat) (x9_12 : Int), v9 = .int .i64 x9_12 ∧ Aside0 (pentaglotref26_Interval.j1 kq x8_4 x9_12 = some (r1, r2)) ∧ Aside0 (kq ≤ kj4) ∧ Aside0 (wc.heap[gb248]? = some (.cells #[(.slice A0_0 l0_0.length c0_0), (.slice A0_1 l0_1.length c0_1), .int .i64 a0_2] 25 (0, 0))) ∧ Aside0 (Below w.heap.size w wc))
   case first =>
    have H := HC13.out
    clear HC13
    by_cases c14 : a2 = (-1)
    ·rw [if_pos c14] at H
     obtain ⟨c14b0, c14b1⟩ := eb_ c14
     clear c14
     (first | rw [c14b0] | (simp only [i64_w, i32_w]; rw [c14b0]) | skip)
     have H' := mk_ H
     clear H
     go_wp2
     go_meet
     case rel => exact ⟨_, ((wrap64 (t249 + 1))), fi_, H', ⟨by have := HJ4.out; first | omega | exact Nat.le_refl _⟩, ⟨bq_ BK248⟩, ⟨be1_ HB GE248⟩⟩
    ·rw [if_neg c14] at H
     obtain ⟨c14b0, c14b1⟩ := en_ c14
     (first | rw [c14b0] | (simp only [i64_w, i32_w]; rw [c14b0]) | skip)
     replace H := Option.bind_eq_some_iff.mp H
     obtain ⟨t251, A150, H⟩ := H
     replace H : (pentaglotref26_Interval.j1 kj4 x8_4 t251) = some (r1, r2) := H
     have A15 := mk_ A150
     clear A150
     have H' := mk_ H
     clear H
     obtain ⟨_, _, _, _, _, _⟩ := hb3_ BK248
     go_wp2_with (first | ((with_reducible refine gate_callee (f := 46) rfl ?_); refine gl_ (some 24) Tryd.func46 #[.agg #[.slice A0_0 l0_0.length c0_0, .slice A0_1 l0_1.length c0_1, .int .i64 a0_2], .int .i64 a2] ?_; (with_reducible refine (pentaglotref26_place.calls kj4 _ _ l0_0 _ _ l0_1 a0_2 a2 t251 _ ?side1 ?side2 ?side3 ?side4 A15.out).mono ?_); (case side1 => exact cs_ (Kd.C_below HR0_0.out HB.out)); (case side2 => exact HC0_0.out); (case side3 => exact cs_ (Kd.C_below HR0_1.out HB.out)); (case side4 => exact HC0_1.out); rintro e w17 ⟨rfl, hb⟩; refine ⟨_, rfl, ?_⟩; replace BK248 := mk_ (bb_ BK248 hb); replace HB := mk_ (below_step (be1_ HB GE248) hb); (try clear hb); (try clear hb2); (try clear hk); (try clear hi)))
     go_meet
     case rel => exact ⟨_, (t251), fi_, H', ⟨by have := HJ4.out; first | omega | exact Nat.le_refl _⟩, ⟨bq_ BK248⟩, ⟨be1_ HB GE248⟩⟩
   case rest =>
    clear HC13
    obtain ⟨kq, x9_12, rfl, HA, HJ12, BK248, HB⟩ := hcut
    cases kq with
    | zero => exact absurd HA.out (by simp [pentaglotref26_Interval.j1])
    | succ kj12 =>
     have H := HA.out
     clear HA
     simp only [pentaglotref26_Interval.j1] at H
     have HC18 := mk_ H
     clear H
     go_upto_region 6 with (fail)
     go_cut [30] (fun v30 wc => ∃ (kq : Nat) (x30_17 : Bool), v30 = .bool x30_17 ∧ Aside0 (pentaglotref26_Interval.j2 kq x8_4 x9_12 x30_17 = some (r1, r2)) ∧ Aside0 (kq ≤ kj12) ∧ Aside0 (wc.heap[gb248]? = some (.cells #[(.slice A0_0 l0_0.length c0_0), (.slice A0_1 l0_1.length c0_1), .int .i64 a0_2] 25 (0, 0))) ∧ Aside0 (Below w.heap.size w wc))
     case first =>
      have H := HC18.out
      clear HC18
      by_cases c19 : x8_4 < 0
      ·rw [if_pos c19] at H
       have c19b0 : decide (x8_4 < 0) = true := decide_eq_true c19
       clear c19
       (first | rw [c19b0] | (simp only [i64_w, i32_w]; rw [c19b0]) | skip)
       have H' := mk_ H
       clear H
       go_wp2
       go_meet
       case rel => exact ⟨_, (true), fi_, H', ⟨by have := HJ4.out; have := HJ12.out; first | omega | exact Nat.le_refl _⟩, ⟨bq_ BK248⟩, ⟨be1_ HB GE248⟩⟩
      ·rw [if_neg c19] at H
       have c19b0 : decide (x8_4 < 0) = false := decide_eq_false c19
       clear c19
       (first | rw [c19b0] | (simp only [i64_w, i32_w]; rw [c19b0]) | skip)
       have H' := mk_ H
       clear H
       go_wp2
       go_meet
       case rel => exact ⟨_, (decide (x9_12 < 0)), fi_, H', ⟨by have := HJ4.out; have := HJ12.out; first | omega | exact Nat.le_refl _⟩, ⟨bq_ BK248⟩, ⟨be1_ HB GE248⟩⟩
     case rest =>
      clear HC18
      obtain ⟨kq, x30_17, rfl, HA, HJ17, BK248, HB⟩ := hcut
      cases kq with
      | zero => exact absurd HA.out (by simp [pentaglotref26_Interval.j2])
      | succ kj17 =>
       have H := HA.out
       clear HA
       simp only [pentaglotref26_Interval.j2] at H
       by_cases c20 : x30_17 = true
       ·subst c20
        rw [if_pos rfl] at H
        simp only [Option.some.injEq, Prod.mk.injEq] at H
        obtain ⟨rfl, rfl⟩ := H
        go_wp2
        go_ret2
        exact ⟨_, er_, by first | exact Kd.R_nil _ _ _ _ _ | exact Kd.N_nil _ _ _ _ _ | exact Kd.V_nil _ _ _ _ _ | exact Kd.Q_nil _ _ _ _ _ | exact Kd.S_nil _ _ _ _ _, be1_ HB GE248⟩
       ·replace c20 := Bool.eq_false_iff.mpr c20
        subst c20
        rw [if_neg nf_] at H
        obtain ⟨y252, hy252⟩ : ∃ y_ : List Int, y_ = (([] : List Int)) := ⟨_, rfl⟩
        replace H : (pentaglotref26_Interval.l0 kj17 x9_12 y252 x8_4) = some (r1, r2) := by first | (rw [hy252]; with_reducible exact H) | (have H2_ := (Option.bind_some _ _).symm.trans H; rw [hy252]; with_reducible exact H2_) | (have H2_ := (Option.bind_some _ _).symm.trans H; with_reducible exact H2_) | with_reducible exact H | (rw [hy252]; exact H) | exact H
        have Ny252 := mk_ hy252
        clear hy252
        have H' := mk_ H
        clear H
        go_wp2_with (first | ((with_reducible refine gate_dst (N := 31) rfl ?_); refine Kd.R_lit (Kd.int .i64) _ 3 ?hg (N := 31) ?hd (xs := ([] : List Int)) (inner := []) (ok := fun _ => True) (okp := fun _ => True) ?hr ?hp (fun _ hk => hk) trivial (Below.refl _ _) (Nat.le_refl _) (by simp) ?_; (case hd => rfl); (case hg => rfl); (case hr => first | (go_simp; done) | (go_simp; rfl)); (case hp => exact (Reps.none _ _)); intro v253 w21 ho22 hb hg_ hnew_; clear hg_ hnew_; (first | rw [← Ny252.out] at ho22 | (simp only [Int.reduceToNat] at ho22; rw [← Ny252.out] at ho22)); have HO254 := mk_ (Kd.R_lower ho22 (below_size (be1_ HB GE248))); replace BK248 := mk_ (bb_ BK248 hb); replace HB := mk_ (below_step (be1_ HB GE248) hb); clear hb ho22))
        go_loopg [10, 11] kj17 (fun kq v10 v11 w' => ∃ (x10_4 : List Int) (x11_4 : Int), v11 = .int .i64 x11_4 ∧ Aside0 (pentaglotref26_Interval.l0 kq x9_12 x10_4 x11_4 = some (r1, r2)) ∧ Aside0 (kq ≤ kj17) ∧ Aside0 (Kd.R (Kd.int .i64) 3 w' w.heap.size (fun _ => True) v10 x10_4) ∧ Aside0 (w'.heap[gb248]? = some (.cells #[(.slice A0_0 l0_0.length c0_0), (.slice A0_1 l0_1.length c0_1), .int .i64 a0_2] 25 (0, 0))) ∧ Aside0 (Below w.heap.size w w'))
        case atStart => exact ⟨(y252), (x8_4), fi_, H', ⟨Nat.le_refl _⟩, ⟨rq_ HO254⟩, ⟨bq_ BK248⟩, ⟨be1_ HB GE248⟩⟩
        case round =>
         clear H'
         obtain ⟨x10_4, x11_4, rfl, HA, HK4, HO_10, BK248, HB⟩ := hrel
         cases gk with
         | zero => exact absurd HA.out (by simp [pentaglotref26_Interval.l0])
         | succ k4 =>
          have H := HA.out
          clear HA
          simp only [pentaglotref26_Interval.l0] at H
          by_cases c23 : x11_4 < x9_12
          ·rw [if_pos c23] at H
           have c23b0 : decide (x11_4 < x9_12) = true := decide_eq_true c23
           clear c23
           by_cases c24 : x10_4.length < 17592186044416
           ·rw [if_pos c24] at H
            have LMc24 := mk_ c24
            clear c24
            obtain ⟨y255, hy255⟩ : ∃ y_ : List Int, y_ = (x10_4 ++ [x11_4]) := ⟨_, rfl⟩
            replace H : (pentaglotref26_Interval.l0 k4 x9_12 y255 (wrap64 (x11_4 + 1))) = some (r1, r2) := by first | (rw [hy255]; with_reducible exact H) | (have H2_ := (Option.bind_some _ _).symm.trans H; rw [hy255]; with_reducible exact H2_) | (have H2_ := (Option.bind_some _ _).symm.trans H; with_reducible exact H2_) | with_reducible exact H | (rw [hy255]; exact H) | exact H
            have Ny255 := mk_ hy255
            clear hy255
            have H' := mk_ H
            clear H
            go_wp2_with (first | ((with_reducible refine gate_builtin (b := .append) (xs := #[.tmp 38, .tmp 40]) rfl ?_); at_builtin; refine Kd.R_append (Kd.int .i64) (w0 := w) w.heap.size rfl (.tmp 38) (.tmp 40) 23 3 (.int .i64 0) 8 rfl Tryd.underlying23 info3 rfl (by decide) (by omega) u10 x10_4 x11_4 [.int .i64 x11_4] (fun _ => True) (fun _ => False) rfl rfl ?aP (fun _ hk => hk.elim) ?aF ?aO ?aB ?aS ?aL ?_; (case aP => exact rfl); (case aB => exact (be1_ HB GE248)); (case aF => exact (fun _ _ => trivial)); (case aO => exact (rq_ HO_10)); (case aS => exact (below_size (be1_ HB GE248))); (case aL => have := LMc24.out; omega); intro v256 w25 ho hb hg hat; rw [← Ny255.out] at ho; have HO257 := mk_ (ho); replace BK248 := mk_ (blk_grown (g := gb248) (o := .cells #[.slice A0_0 l0_0.length c0_0, .slice A0_1 l0_1.length c0_1, .int .i64 a0_2] 25 (0, 0)) (bq_ BK248) hg (Kd.R_ne HO_10.out BK248.out (by decide))); replace HB := mk_ (hb); clear HO_10; clear ho hb hg hat))
            go_roundg k4
            case measure => have := HJ4.out; have := HJ12.out; have := HJ17.out; have := HK4.out; omega
            case rel => exact ⟨(y255), (wrap64 (x11_4 + 1)), fi_, H', ⟨by have := HJ4.out; have := HJ12.out; have := HJ17.out; have := HK4.out; omega⟩, ⟨rq_ HO257⟩, ⟨bq_ BK248⟩, ⟨be1_ HB GE248⟩⟩
           ·rw [if_neg c24] at H
            exact absurd H (by simp)
          ·rw [if_neg c23] at H
           have c23b0 : decide (x11_4 < x9_12) = false := decide_eq_false c23
           clear c23
           simp only [Option.some.injEq, Prod.mk.injEq] at H
           obtain ⟨rfl, rfl⟩ := H
           go_wp2
           go_ret2
           exact ⟨_, er_, by refine sr_ ?_; exact HO_10.out, be1_ HB GE248⟩

end Go.Proofs.YtolpckflofjfhaaDoor.P
