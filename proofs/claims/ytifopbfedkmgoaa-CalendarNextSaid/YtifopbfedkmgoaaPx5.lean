-- Written by the session's own program wip/tools/xprint.py out of the translation, with the kit's print.py on a scratch copy; functions given by hand stand among them.
import Derived.Test.YtifopbfedkmgoaaPx0
import Derived.Test.YtifopbfedkmgoaaPx1
import Derived.Test.YtifopbfedkmgoaaPx2
namespace Go.Proofs.Ytifopbfedkmgoaa.P
open Go.RowKit Go.Proofs.YtifopbfedkmgoaaW.PrintWords Go.Proofs.YtifopbfedkmgoaaW.PrintLast Go.Proofs.YtifopbfedkmgoaaW.PrintMore
attribute [local go_sem] max2_int min2_int max_two min_two max_three min_three max_four min_four   -- for this text's walks alone
set_option linter.unusedVariables false
set_option linter.unusedSimpArgs false

attribute [local go_sem high] eqA30
/-! ### pentaglotlaw17_CalendarNext: function 8 -/
mutual
def pentaglotlaw17_CalendarNext.j0 : Nat → Int → Bool → Option (Bool)
  | 0, _, _ => none
  | k + 1, x0, x17 => if x17 = true then ((pentaglotlaw17_awake.f k).bind fun t177 => (some t177)) else ((calendar_SolarDate.f k x0).bind fun bt178 => ((calendar_SolarDate.f k (wrap64 (x0 + 1))).bind fun bt185 => (if bt178.2.2.2.2.2 = 0 then (pentaglotlaw17_CalendarNext.j1 k (bt185.2.2.2.2.2 != 0) bt178.1 bt178.2.1 bt178.2.2.1 bt178.2.2.2.1 bt178.2.2.2.2.1 bt185.1 bt185.2.1 bt185.2.2.1 bt185.2.2.2.1 bt185.2.2.2.2.1) else (pentaglotlaw17_CalendarNext.j1 k true bt178.1 bt178.2.1 bt178.2.2.1 bt178.2.2.2.1 bt178.2.2.2.2.1 bt185.1 bt185.2.1 bt185.2.2.1 bt185.2.2.2.1 bt185.2.2.2.2.1))))
def pentaglotlaw17_CalendarNext.j1 : Nat → Bool → Int → Int → Int → Int → Bool → Int → Int → Int → Int → Bool → Option (Bool)
  | 0, _, _, _, _, _, _, _, _, _, _, _ => none
  | k + 1, x35, x185000, x185001, x185002, x185003, x185004, x192000, x192001, x192002, x192003, x192004 => if x35 = true then (some false) else ((calendar_MonthDays.f x185001 x185002).bind fun t193 => (if x185003 = t193 then (if (wrap64 (x185002 + 1)) = 13 then (some (x192000 == 1 && (x192001 == (wrap64 (x185001 + 1)) && (x192002 == 1 && (x192003 == 1 && (!x192004)))))) else (some (x192000 == 1 && (x192001 == x185001 && (x192002 == (wrap64 (x185002 + 1)) && (x192003 == 1 && (!x192004))))))) else (if x185002 = 13 then (some (x192000 == 1 && (x192001 == (wrap64 (x185001 + 1)) && (x192002 == 1 && (x192003 == 1 && (!x192004)))))) else (some (x192000 == 1 && (x192001 == x185001 && (x192002 == x185002 && (x192003 == (wrap64 (x185003 + 1)) && (!x192004)))))))))
end
def pentaglotlaw17_CalendarNext.f (k : Nat) (a0 : Int) : Option (Bool) := (pentaglotlaw17_awake.f k).bind fun t176 => (if t176 = true then (if a0 < 0 then (pentaglotlaw17_CalendarNext.j0 k a0 true) else (pentaglotlaw17_CalendarNext.j0 k a0 (decide (a0 ≥ 999999)))) else (pentaglotlaw17_CalendarNext.j0 k a0 true))
theorem pentaglotlaw17_CalendarNext.mono_l : ∀ k, (∀ y0 y1, LeO (pentaglotlaw17_CalendarNext.j0 k y0 y1) (pentaglotlaw17_CalendarNext.j0 (k + 1) y0 y1)) ∧ (∀ y0 y1 y2 y3 y4 y5 y6 y7 y8 y9 y10, LeO (pentaglotlaw17_CalendarNext.j1 k y0 y1 y2 y3 y4 y5 y6 y7 y8 y9 y10) (pentaglotlaw17_CalendarNext.j1 (k + 1) y0 y1 y2 y3 y4 y5 y6 y7 y8 y9 y10))
  | 0 => ⟨fun _ _ r h => by simp [pentaglotlaw17_CalendarNext.j0] at h, fun _ _ _ _ _ _ _ _ _ _ _ r h => by simp [pentaglotlaw17_CalendarNext.j1] at h⟩
  | k + 1 => by
    obtain ⟨ih0, ih1⟩ := pentaglotlaw17_CalendarNext.mono_l k
    refine ⟨?_, ?_⟩
    · intro y0 y1
      unfold pentaglotlaw17_CalendarNext.j0
      repeat' first
      | (with_reducible exact ih0 _ _)
      | (with_reducible exact ih1 _ _ _ _ _ _ _ _ _ _ _)
      | (with_reducible exact calendar_SolarDate.mono _ _)
      | (with_reducible exact pentaglotlaw17_awake.mono _)
      | (with_reducible exact LeO.refl _)
      | (with_reducible exact LeO.none _)
      | (with_reducible refine LeO.ite ?_ ?_)
      | (with_reducible refine LeO.bind ?_ (fun _ => ?_))
      | exact ih0 _ _
      | exact ih1 _ _ _ _ _ _ _ _ _ _ _
      | exact calendar_SolarDate.mono _ _
      | exact pentaglotlaw17_awake.mono _
      | exact LeO.none _
      | refine LeO.ite ?_ ?_
      | refine LeO.bind ?_ (fun _ => ?_)
    · intro y0 y1 y2 y3 y4 y5 y6 y7 y8 y9 y10
      unfold pentaglotlaw17_CalendarNext.j1
      repeat' first
      | (with_reducible exact ih0 _ _)
      | (with_reducible exact ih1 _ _ _ _ _ _ _ _ _ _ _)
      | (with_reducible exact calendar_SolarDate.mono _ _)
      | (with_reducible exact pentaglotlaw17_awake.mono _)
      | (with_reducible exact LeO.refl _)
      | (with_reducible exact LeO.none _)
      | (with_reducible refine LeO.ite ?_ ?_)
      | (with_reducible refine LeO.bind ?_ (fun _ => ?_))
      | exact ih0 _ _
      | exact ih1 _ _ _ _ _ _ _ _ _ _ _
      | exact calendar_SolarDate.mono _ _
      | exact pentaglotlaw17_awake.mono _
      | exact LeO.none _
      | refine LeO.ite ?_ ?_
      | refine LeO.bind ?_ (fun _ => ?_)
theorem pentaglotlaw17_CalendarNext.mono : ∀ a0 k, LeO (pentaglotlaw17_CalendarNext.f k a0) (pentaglotlaw17_CalendarNext.f (k + 1) a0) := by
  intro a0 k
  obtain ⟨ih0, ih1⟩ := pentaglotlaw17_CalendarNext.mono_l k
  unfold pentaglotlaw17_CalendarNext.f
  repeat' first
      | (with_reducible exact ih0 _ _)
      | (with_reducible exact ih1 _ _ _ _ _ _ _ _ _ _ _)
      | (with_reducible exact calendar_SolarDate.mono _ _)
      | (with_reducible exact pentaglotlaw17_awake.mono _)
      | (with_reducible exact LeO.refl _)
      | (with_reducible exact LeO.none _)
      | (with_reducible refine LeO.ite ?_ ?_)
      | (with_reducible refine LeO.bind ?_ (fun _ => ?_))
      | exact ih0 _ _
      | exact ih1 _ _ _ _ _ _ _ _ _ _ _
      | exact calendar_SolarDate.mono _ _
      | exact pentaglotlaw17_awake.mono _
      | exact LeO.none _
      | refine LeO.ite ?_ ?_
      | refine LeO.bind ?_ (fun _ => ?_)
def pentaglotlaw17_CalendarNext.T8 : Bool × List (List Nat × List Nat) := (true, [([], []), ([0], [0]), ([], []), ([2], [2]), ([], []), ([4], [4]), ([3, 5], [3, 5]), ([1, 6], [1, 6])])
def pentaglotlaw17_CalendarNext.B8 : List Nat := [0, 1, 0, 4, 0, 16, 60, 127]
theorem pentaglotlaw17_CalendarNext.tab8 : rtab .any (opsOf Try.f8 8) = pentaglotlaw17_CalendarNext.T8 := by kernel_rfl
theorem pentaglotlaw17_CalendarNext.bits8 : waitsOk pentaglotlaw17_CalendarNext.T8.2 pentaglotlaw17_CalendarNext.B8 = true := by kernel_rfl
set_option maxHeartbeats 8000000 in
set_option maxRecDepth 100000 in
theorem pentaglotlaw17_CalendarNext.calls (k : Nat) (a0 : Int) (r : Bool) (w : World) (h : pentaglotlaw17_CalendarNext.f k a0 = some r) :
    Calls Try.prog 8 #[.int .i64 a0] w fun e w' => e = .returned (.bool r) ∧ Below w.heap.size w w' := by
  have hu30 := Try.underlying30
  have HB := Aside0.mk (Below.refl w.heap.size w)
  have H : ((pentaglotlaw17_awake.f k).bind fun t176 => (if t176 = true then (if a0 < 0 then (pentaglotlaw17_CalendarNext.j0 k a0 true) else (pentaglotlaw17_CalendarNext.j0 k a0 (decide (a0 ≥ 999999)))) else (pentaglotlaw17_CalendarNext.j0 k a0 true))) = some r := h
  clear h
  have HC2 := Aside0.mk H
  clear H
  go_enter Try.func8, Try.ntmps8
  go_upto_region 1 with (fail)
  go_cut [17] (fun v17 wc => ∃ (kq : Nat) (x17_1 : Bool), v17 = .bool x17_1 ∧ Aside0 (pentaglotlaw17_CalendarNext.j0 kq a0 x17_1 = some r) ∧ Aside0 (kq ≤ k) ∧ Aside0 (Below w.heap.size w wc))
  case first =>
    have H := HC2.out
    clear HC2
    replace H := Option.bind_eq_some_iff.mp H
    obtain ⟨t176, A30, H⟩ := H
    replace H : (if t176 = true then (if a0 < 0 then (pentaglotlaw17_CalendarNext.j0 k a0 true) else (pentaglotlaw17_CalendarNext.j0 k a0 (decide (a0 ≥ 999999)))) else (pentaglotlaw17_CalendarNext.j0 k a0 true)) = some r := H
    have A3 := Aside0.mk A30
    clear A30
    by_cases c4 : t176 = true
    · subst c4
      have H1 : (if a0 < 0 then (pentaglotlaw17_CalendarNext.j0 k a0 true) else (pentaglotlaw17_CalendarNext.j0 k a0 (decide (a0 ≥ 999999)))) = some r := by rw [if_pos rfl] at H; exact H
      clear H
      have H := H1
      clear H1
      by_cases c5 : a0 < 0
      · rw [if_pos c5] at H
        have c5b0 : decide (a0 < 0) = true := decide_eq_true c5
        clear c5
        (first | rw [c5b0] | (simp only [i64_w, i32_w]; rw [c5b0]) | skip)
        have H' := Aside0.mk H
        clear H
        go_wp2_with (first | ((with_reducible refine gate_callee (f := 17) rfl ?_); refine goesL_ (some 8) rfl rfl Try.func17 (by kernel_rfl) rfl #[] rfl (by (try simp only [List.map_toArray, List.map_cons, List.map_nil]); first | done | rfl | (simp only [List.length_drop, List.length_take]; rfl)) ?_; (with_reducible refine (pentaglotlaw17_awake.calls k  true _ A3.out).mono ?_); rintro e w6 ⟨rfl, hb⟩; refine ⟨_, rfl, ?_⟩; have n0_ := Aside0.mk (below_step (by repeat (first | (with_reducible first | exact HB.out | apply below_alloc | apply pw_below_drewN | apply below_drew1) | exact HB.out)) hb); clear HB; have HB := n0_; clear n0_; (try clear hb); (try clear hb2); (try clear hk); (try clear hi)))
        go_meet
        case rel => exact ⟨_, (true), (by first | rfl | (simp; done) | (simp [*]; done)), H', ⟨by first | omega | exact Nat.le_refl _⟩, ⟨by repeat (first | (with_reducible first | exact HB.out | apply below_alloc | apply pw_below_drewN | apply below_drew1) | exact HB.out)⟩⟩
      · rw [if_neg c5] at H
        have c5b0 : decide (a0 < 0) = false := decide_eq_false c5
        clear c5
        (first | rw [c5b0] | (simp only [i64_w, i32_w]; rw [c5b0]) | skip)
        have H' := Aside0.mk H
        clear H
        go_wp2_with (first | ((with_reducible refine gate_callee (f := 17) rfl ?_); refine goesL_ (some 8) rfl rfl Try.func17 (by kernel_rfl) rfl #[] rfl (by (try simp only [List.map_toArray, List.map_cons, List.map_nil]); first | done | rfl | (simp only [List.length_drop, List.length_take]; rfl)) ?_; (with_reducible refine (pentaglotlaw17_awake.calls k  true _ A3.out).mono ?_); rintro e w7 ⟨rfl, hb⟩; refine ⟨_, rfl, ?_⟩; have n0_ := Aside0.mk (below_step (by repeat (first | (with_reducible first | exact HB.out | apply below_alloc | apply pw_below_drewN | apply below_drew1) | exact HB.out)) hb); clear HB; have HB := n0_; clear n0_; (try clear hb); (try clear hb2); (try clear hk); (try clear hi)))
        go_meet
        case rel => exact ⟨_, (decide (a0 ≥ 999999)), (by first | rfl | (simp; done) | (simp [*]; done)), H', ⟨by first | omega | exact Nat.le_refl _⟩, ⟨by repeat (first | (with_reducible first | exact HB.out | apply below_alloc | apply pw_below_drewN | apply below_drew1) | exact HB.out)⟩⟩
    · replace c4 := Bool.eq_false_iff.mpr c4
      subst c4
      have H1 : (pentaglotlaw17_CalendarNext.j0 k a0 true) = some r := by rw [if_neg (show ¬ (false = true) by decide)] at H; exact H
      clear H
      have H := H1
      clear H1
      have H' := Aside0.mk H
      clear H
      go_wp2_with (first | ((with_reducible refine gate_callee (f := 17) rfl ?_); refine goesL_ (some 8) rfl rfl Try.func17 (by kernel_rfl) rfl #[] rfl (by (try simp only [List.map_toArray, List.map_cons, List.map_nil]); first | done | rfl | (simp only [List.length_drop, List.length_take]; rfl)) ?_; (with_reducible refine (pentaglotlaw17_awake.calls k  false _ A3.out).mono ?_); rintro e w8 ⟨rfl, hb⟩; refine ⟨_, rfl, ?_⟩; have n0_ := Aside0.mk (below_step (by repeat (first | (with_reducible first | exact HB.out | apply below_alloc | apply pw_below_drewN | apply below_drew1) | exact HB.out)) hb); clear HB; have HB := n0_; clear n0_; (try clear hb); (try clear hb2); (try clear hk); (try clear hi)))
      go_meet
      case rel => exact ⟨_, (true), (by first | rfl | (simp; done) | (simp [*]; done)), H', ⟨by first | omega | exact Nat.le_refl _⟩, ⟨by repeat (first | (with_reducible first | exact HB.out | apply below_alloc | apply pw_below_drewN | apply below_drew1) | exact HB.out)⟩⟩
  case rest =>
    clear HC2
    try clear c1
    try clear p2
    try clear c4
    try clear c5
    try clear c5b0
    try clear c8
    obtain ⟨kq, x17_1, rfl, HA, HJ1, HB⟩ := hcut
    cases kq with
    | zero => exact absurd HA.out (by simp [pentaglotlaw17_CalendarNext.j0])
    | succ kj1 =>
      have H := HA.out
      clear HA
      simp only [pentaglotlaw17_CalendarNext.j0] at H
      by_cases c9 : x17_1 = true
      · subst c9
        have H1 : ((pentaglotlaw17_awake.f kj1).bind fun t177 => (some t177)) = some r := by rw [if_pos rfl] at H; exact H
        clear H
        have H := H1
        clear H1
        replace H := Option.bind_eq_some_iff.mp H
        obtain ⟨t177, A100, H⟩ := H
        replace H : (some t177) = some r := H
        have A10 := Aside0.mk A100
        clear A100
        obtain rfl := Option.some.inj H
        go_wp2_with (first | ((with_reducible refine gate_callee (f := 17) rfl ?_); refine goesL_ (some 18) rfl rfl Try.func17 (by kernel_rfl) rfl #[] rfl (by (try simp only [List.map_toArray, List.map_cons, List.map_nil]); first | done | rfl | (simp only [List.length_drop, List.length_take]; rfl)) ?_; (with_reducible refine (pentaglotlaw17_awake.calls kj1  t177 _ A10.out).mono ?_); rintro e w11 ⟨rfl, hb⟩; refine ⟨_, rfl, ?_⟩; have n0_ := Aside0.mk (below_step (by repeat (first | (with_reducible first | exact HB.out | apply below_alloc | apply pw_below_drewN | apply below_drew1) | exact HB.out)) hb); clear HB; have HB := n0_; clear n0_; (try clear hb); (try clear hb2); (try clear hk); (try clear hi)))
        go_ret
        exact ⟨by first | rfl | (simp [errW_none, errW_some] <;> rfl) | (simp [*, errW_none, errW_some] <;> rfl), by repeat (first | (with_reducible first | exact HB.out | apply below_alloc | apply pw_below_drewN | apply below_drew1) | exact HB.out)⟩
      · replace c9 := Bool.eq_false_iff.mpr c9
        subst c9
        have H1 : ((calendar_SolarDate.f kj1 a0).bind fun bt178 => ((calendar_SolarDate.f kj1 (wrap64 (a0 + 1))).bind fun bt185 => (if bt178.2.2.2.2.2 = 0 then (pentaglotlaw17_CalendarNext.j1 kj1 (bt185.2.2.2.2.2 != 0) bt178.1 bt178.2.1 bt178.2.2.1 bt178.2.2.2.1 bt178.2.2.2.2.1 bt185.1 bt185.2.1 bt185.2.2.1 bt185.2.2.2.1 bt185.2.2.2.2.1) else (pentaglotlaw17_CalendarNext.j1 kj1 true bt178.1 bt178.2.1 bt178.2.2.1 bt178.2.2.2.1 bt178.2.2.2.2.1 bt185.1 bt185.2.1 bt185.2.2.1 bt185.2.2.2.1 bt185.2.2.2.2.1)))) = some r := by rw [if_neg (show ¬ (false = true) by decide)] at H; exact H
        clear H
        have H := H1
        clear H1
        replace H := Option.bind_eq_some_iff.mp H
        obtain ⟨⟨t178, t179, t180, t181, t182, t183⟩, A120, H⟩ := H
        replace H : ((calendar_SolarDate.f kj1 (wrap64 (a0 + 1))).bind fun bt185 => (if t183 = 0 then (pentaglotlaw17_CalendarNext.j1 kj1 (bt185.2.2.2.2.2 != 0) t178 t179 t180 t181 t182 bt185.1 bt185.2.1 bt185.2.2.1 bt185.2.2.2.1 bt185.2.2.2.2.1) else (pentaglotlaw17_CalendarNext.j1 kj1 true t178 t179 t180 t181 t182 bt185.1 bt185.2.1 bt185.2.2.1 bt185.2.2.2.1 bt185.2.2.2.2.1))) = some r := H
        have A12 := Aside0.mk A120
        clear A120
        replace H := Option.bind_eq_some_iff.mp H
        obtain ⟨⟨t185, t186, t187, t188, t189, t190⟩, A130, H⟩ := H
        replace H : (if t183 = 0 then (pentaglotlaw17_CalendarNext.j1 kj1 (t190 != 0) t178 t179 t180 t181 t182 t185 t186 t187 t188 t189) else (pentaglotlaw17_CalendarNext.j1 kj1 true t178 t179 t180 t181 t182 t185 t186 t187 t188 t189)) = some r := H
        have A13 := Aside0.mk A130
        clear A130
        have HC14 := Aside0.mk H
        clear H
        go_upto_region 5 with (first | ((with_reducible refine gate_callee (f := 24) rfl ?_); refine goesL_ (some 21) rfl rfl Try.func24 (by kernel_rfl) rfl #[.int .i64 a0] rfl (by (try simp only [List.map_toArray, List.map_cons, List.map_nil]); first | done | rfl | (simp only [List.length_drop, List.length_take]; rfl)) ?_; (with_reducible refine (calendar_SolarDate.calls kj1 a0 t178 t179 t180 t181 t182 t183 _ A12.out).mono ?_); rintro e w15 ⟨rfl, hb⟩; refine ⟨_, rfl, ?_⟩; have n0_ := Aside0.mk (below_step (by repeat (first | (with_reducible first | exact HB.out | apply below_alloc | apply pw_below_drewN | apply below_drew1) | exact HB.out)) hb); clear HB; have HB := n0_; clear n0_; (try clear hb); (try clear hb2); (try clear hk); (try clear hi)) | ((with_reducible refine gate_dst (N := 3) rfl ?_); refine box_event ?hg (N := 3) ?hd (cs := #[.int .i64 0, .int .i64 0, .int .i64 0, .int .i64 0, .bool false]) (t := 30) ?hr ?_; (case hd => rfl); (case hg => rfl); (case hr => first | (go_simp; done) | (go_simp; rfl)); intro gb184 hg w16 hbox hb; have n0_ := Aside0.mk (below_step (by repeat (first | (with_reducible first | exact HB.out | apply below_alloc | apply pw_below_drewN | apply below_drew1) | exact HB.out)) hb); have n1_ := Aside0.mk (hbox); have n2_ := Aside0.mk ((by rw [hg]; exact (below_size (by repeat (first | (with_reducible first | exact HB.out | apply below_alloc | apply pw_below_drewN | apply below_drew1) | exact HB.out))) : w.heap.size ≤ gb184)); have n3_ := Aside0.mk ((by rw [hg]; exact (below_size (by repeat (first | (with_reducible first | exact HB.out | apply below_alloc | apply pw_below_drewN | apply below_drew1) | exact HB.out))) : w.heap.size ≤ gb184)); clear HB; have HB := n0_; have BK184 := n1_; have GW184 := n2_; have GE184 := n3_; clear n0_ n1_ n2_ n3_; clear hb hbox hg; have hcz17_0 : w16.cell? ⟨gb184, 0, none⟩ = some (.int .i64 0) := (blk_cell BK184.out 0).trans rfl; have hcz17_1 : w16.cell? ⟨gb184, 1, none⟩ = some (.int .i64 0) := (blk_cell BK184.out 1).trans rfl; have hcz17_2 : w16.cell? ⟨gb184, 2, none⟩ = some (.int .i64 0) := (blk_cell BK184.out 2).trans rfl; have hcz17_3 : w16.cell? ⟨gb184, 3, none⟩ = some (.int .i64 0) := (blk_cell BK184.out 3).trans rfl; have hcz17_4 : w16.cell? ⟨gb184, 4, none⟩ = some (.bool false) := (blk_cell BK184.out 4).trans rfl; have hfz17_0 := blk_frozen BK184.out 0; have hfz17_1 := blk_frozen BK184.out 1; have hfz17_2 := blk_frozen BK184.out 2; have hfz17_3 := blk_frozen BK184.out 3; have hfz17_4 := blk_frozen BK184.out 4) | ((with_reducible refine gate_callee (f := 24) rfl ?_); refine goesL_ (some 27) rfl rfl Try.func24 (by kernel_rfl) rfl #[.int .i64 (wrap64 (a0 + 1))] rfl (by (try simp only [List.map_toArray, List.map_cons, List.map_nil]); first | done | rfl | (simp only [List.length_drop, List.length_take]; rfl)) ?_; (with_reducible refine (calendar_SolarDate.calls kj1 (wrap64 (a0 + 1)) t185 t186 t187 t188 t189 t190 _ A13.out).mono ?_); rintro e w18 ⟨rfl, hb⟩; refine ⟨_, rfl, ?_⟩; have n0_ := Aside0.mk (blk_below (g := gb184) (o := .cells #[.int .i64 t178, .int .i64 t179, .int .i64 t180, .int .i64 t181, .bool t182] 30 (0, 0)) (by (with_reducible repeat (first | refine blk_drewN ?_ _ | refine blk_drew ?_ | refine blk_alloc ?_ _)); refine blk_put (cs := #[.int .i64 t178, .int .i64 t179, .int .i64 t180, .int .i64 t181, .bool false]) ?_ 4 _ rfl; (with_reducible repeat (first | refine blk_drewN ?_ _ | refine blk_drew ?_ | refine blk_alloc ?_ _)); refine blk_put (cs := #[.int .i64 t178, .int .i64 t179, .int .i64 t180, .int .i64 0, .bool false]) ?_ 3 _ rfl; (with_reducible repeat (first | refine blk_drewN ?_ _ | refine blk_drew ?_ | refine blk_alloc ?_ _)); refine blk_put (cs := #[.int .i64 t178, .int .i64 t179, .int .i64 0, .int .i64 0, .bool false]) ?_ 2 _ rfl; (with_reducible repeat (first | refine blk_drewN ?_ _ | refine blk_drew ?_ | refine blk_alloc ?_ _)); refine blk_put (cs := #[.int .i64 t178, .int .i64 0, .int .i64 0, .int .i64 0, .bool false]) ?_ 1 _ rfl; (with_reducible repeat (first | refine blk_drewN ?_ _ | refine blk_drew ?_ | refine blk_alloc ?_ _)); refine blk_put (cs := #[.int .i64 0, .int .i64 0, .int .i64 0, .int .i64 0, .bool false]) ?_ 0 _ rfl; (with_reducible repeat (first | refine blk_drewN ?_ _ | refine blk_drew ?_ | refine blk_alloc ?_ _)); exact BK184.out) hb); have n1_ := Aside0.mk (below_step (by repeat (first | (with_reducible first | exact HB.out | apply below_alloc | apply pw_below_drewN | apply below_drew1 | refine below_set ?_ GE184.out) | exact HB.out)) hb); clear BK184; clear HB; have BK184 := n0_; have HB := n1_; clear n0_ n1_; (try clear hb); (try clear hb2); (try clear hk); (try clear hi)) | ((with_reducible refine gate_dst (N := 5) rfl ?_); refine box_event ?hg (N := 5) ?hd (cs := #[.int .i64 0, .int .i64 0, .int .i64 0, .int .i64 0, .bool false]) (t := 30) ?hr ?_; (case hd => rfl); (case hg => rfl); (case hr => first | (go_simp; done) | (go_simp; rfl)); intro gb191 hg w19 hbox hb; have n0_ := Aside0.mk (blk_below (g := gb184) (o := .cells #[.int .i64 t178, .int .i64 t179, .int .i64 t180, .int .i64 t181, .bool t182] 30 (0, 0)) (by (with_reducible repeat (first | refine blk_drewN ?_ _ | refine blk_drew ?_ | refine blk_alloc ?_ _)); exact BK184.out) hb); have n1_ := Aside0.mk (below_step (by repeat (first | (with_reducible first | exact HB.out | apply below_alloc | apply pw_below_drewN | apply below_drew1 | refine below_set ?_ GE184.out) | exact HB.out)) hb); have n2_ := Aside0.mk (hbox); have n3_ := Aside0.mk ((by rw [hg]; exact (below_size (by repeat (first | (with_reducible first | exact HB.out | apply below_alloc | apply pw_below_drewN | apply below_drew1 | refine below_set ?_ GE184.out) | exact HB.out))) : w.heap.size ≤ gb191)); have n4_ := Aside0.mk ((by rw [hg]; exact (below_size (by repeat (first | (with_reducible first | exact HB.out | apply below_alloc | apply pw_below_drewN | apply below_drew1 | refine below_set ?_ GE184.out) | exact HB.out))) : w.heap.size ≤ gb191)); have n5_ := Aside0.mk ((by rw [hg]; exact Nat.ne_of_lt (blk_lt (g := gb184) (o := .cells #[.int .i64 t178, .int .i64 t179, .int .i64 t180, .int .i64 t181, .bool t182] 30 (0, 0)) (by (with_reducible repeat (first | refine blk_drewN ?_ _ | refine blk_drew ?_ | refine blk_alloc ?_ _)); exact BK184.out)) : gb184 ≠ gb191)); have n6_ := Aside0.mk ((by rw [hg]; exact Nat.ne_of_gt (blk_lt (g := gb184) (o := .cells #[.int .i64 t178, .int .i64 t179, .int .i64 t180, .int .i64 t181, .bool t182] 30 (0, 0)) (by (with_reducible repeat (first | refine blk_drewN ?_ _ | refine blk_drew ?_ | refine blk_alloc ?_ _)); exact BK184.out)) : gb191 ≠ gb184)); clear BK184; clear HB; have BK184 := n0_; have HB := n1_; have BK191 := n2_; have GW191 := n3_; have GE191 := n4_; have NB184_191 := n5_; have NB191_184 := n6_; clear n0_ n1_ n2_ n3_ n4_ n5_ n6_; clear hb hbox hg; have hnb20 := NB191_184.out; have hnc20 := NB184_191.out; have hcz21_0 : w19.cell? ⟨gb191, 0, none⟩ = some (.int .i64 0) := (blk_cell BK191.out 0).trans rfl; have hcz21_1 : w19.cell? ⟨gb191, 1, none⟩ = some (.int .i64 0) := (blk_cell BK191.out 1).trans rfl; have hcz21_2 : w19.cell? ⟨gb191, 2, none⟩ = some (.int .i64 0) := (blk_cell BK191.out 2).trans rfl; have hcz21_3 : w19.cell? ⟨gb191, 3, none⟩ = some (.int .i64 0) := (blk_cell BK191.out 3).trans rfl; have hcz21_4 : w19.cell? ⟨gb191, 4, none⟩ = some (.bool false) := (blk_cell BK191.out 4).trans rfl; have hfz21_0 := blk_frozen BK191.out 0; have hfz21_1 := blk_frozen BK191.out 1; have hfz21_2 := blk_frozen BK191.out 2; have hfz21_3 := blk_frozen BK191.out 3; have hfz21_4 := blk_frozen BK191.out 4))
        (try simp only [Act.put, List.setIfInBounds_toArray, List.set_cons_zero, List.set_cons_succ])
        go_cut [35] (fun v35 wc => ∃ (kq : Nat) (x35_13 : Bool), v35 = .bool x35_13 ∧ Aside0 (pentaglotlaw17_CalendarNext.j1 kq x35_13 t178 t179 t180 t181 t182 t185 t186 t187 t188 t189 = some r) ∧ Aside0 (kq ≤ kj1) ∧ Aside0 (wc.heap[gb184]? = some (.cells #[.int .i64 t178, .int .i64 t179, .int .i64 t180, .int .i64 t181, .bool t182] 30 (0, 0))) ∧ Aside0 (wc.heap[gb191]? = some (.cells #[.int .i64 t185, .int .i64 t186, .int .i64 t187, .int .i64 t188, .bool t189] 30 (0, 0))) ∧ Aside0 (Below w.heap.size w wc))
        case first =>
          have H := HC14.out
          clear HC14
          by_cases c22 : t183 = 0
          · rw [if_pos c22] at H
            have c22b0 : (t183 == 0) = true := beq_iff_eq.mpr c22
            have c22b1 : (t183 != 0) = false := bne_eq_false_iff_eq.mpr c22
            clear c22
            (first | rw [c22b0] | (simp only [i64_w, i32_w]; rw [c22b0]) | skip)
            have H' := Aside0.mk H
            clear H
            go_wp2
            go_meet
            case rel => exact ⟨_, ((t190 != 0)), (by first | rfl | (simp; done) | (simp [*]; done)), H', ⟨by have := HJ1.out; first | omega | exact Nat.le_refl _⟩, ⟨by (with_reducible repeat (first | refine blk_drewN ?_ _ | refine blk_drew ?_ | refine blk_alloc ?_ _)); refine blk_far ?_ NB184_191.out _; (with_reducible repeat (first | refine blk_drewN ?_ _ | refine blk_drew ?_ | refine blk_alloc ?_ _)); refine blk_far ?_ NB184_191.out _; (with_reducible repeat (first | refine blk_drewN ?_ _ | refine blk_drew ?_ | refine blk_alloc ?_ _)); refine blk_far ?_ NB184_191.out _; (with_reducible repeat (first | refine blk_drewN ?_ _ | refine blk_drew ?_ | refine blk_alloc ?_ _)); refine blk_far ?_ NB184_191.out _; (with_reducible repeat (first | refine blk_drewN ?_ _ | refine blk_drew ?_ | refine blk_alloc ?_ _)); refine blk_far ?_ NB184_191.out _; (with_reducible repeat (first | refine blk_drewN ?_ _ | refine blk_drew ?_ | refine blk_alloc ?_ _)); exact BK184.out⟩, ⟨by (with_reducible repeat (first | refine blk_drewN ?_ _ | refine blk_drew ?_ | refine blk_alloc ?_ _)); refine blk_put (cs := #[.int .i64 t185, .int .i64 t186, .int .i64 t187, .int .i64 t188, .bool false]) ?_ 4 _ rfl; (with_reducible repeat (first | refine blk_drewN ?_ _ | refine blk_drew ?_ | refine blk_alloc ?_ _)); refine blk_put (cs := #[.int .i64 t185, .int .i64 t186, .int .i64 t187, .int .i64 0, .bool false]) ?_ 3 _ rfl; (with_reducible repeat (first | refine blk_drewN ?_ _ | refine blk_drew ?_ | refine blk_alloc ?_ _)); refine blk_put (cs := #[.int .i64 t185, .int .i64 t186, .int .i64 0, .int .i64 0, .bool false]) ?_ 2 _ rfl; (with_reducible repeat (first | refine blk_drewN ?_ _ | refine blk_drew ?_ | refine blk_alloc ?_ _)); refine blk_put (cs := #[.int .i64 t185, .int .i64 0, .int .i64 0, .int .i64 0, .bool false]) ?_ 1 _ rfl; (with_reducible repeat (first | refine blk_drewN ?_ _ | refine blk_drew ?_ | refine blk_alloc ?_ _)); refine blk_put (cs := #[.int .i64 0, .int .i64 0, .int .i64 0, .int .i64 0, .bool false]) ?_ 0 _ rfl; (with_reducible repeat (first | refine blk_drewN ?_ _ | refine blk_drew ?_ | refine blk_alloc ?_ _)); exact BK191.out⟩, ⟨by repeat (first | (with_reducible first | exact HB.out | apply below_alloc | apply pw_below_drewN | apply below_drew1 | refine below_set ?_ GE184.out | refine below_set ?_ GE191.out) | exact HB.out)⟩⟩
          · rw [if_neg c22] at H
            have c22b0 : (t183 == 0) = false := beq_eq_false_iff_ne.mpr c22
            have c22b1 : (t183 != 0) = true := bne_iff_ne.mpr c22
            (first | rw [c22b0] | (simp only [i64_w, i32_w]; rw [c22b0]) | skip)
            have H' := Aside0.mk H
            clear H
            go_wp2
            go_meet
            case rel => exact ⟨_, (true), (by first | rfl | (simp; done) | (simp [*]; done)), H', ⟨by have := HJ1.out; first | omega | exact Nat.le_refl _⟩, ⟨by (with_reducible repeat (first | refine blk_drewN ?_ _ | refine blk_drew ?_ | refine blk_alloc ?_ _)); refine blk_far ?_ NB184_191.out _; (with_reducible repeat (first | refine blk_drewN ?_ _ | refine blk_drew ?_ | refine blk_alloc ?_ _)); refine blk_far ?_ NB184_191.out _; (with_reducible repeat (first | refine blk_drewN ?_ _ | refine blk_drew ?_ | refine blk_alloc ?_ _)); refine blk_far ?_ NB184_191.out _; (with_reducible repeat (first | refine blk_drewN ?_ _ | refine blk_drew ?_ | refine blk_alloc ?_ _)); refine blk_far ?_ NB184_191.out _; (with_reducible repeat (first | refine blk_drewN ?_ _ | refine blk_drew ?_ | refine blk_alloc ?_ _)); refine blk_far ?_ NB184_191.out _; (with_reducible repeat (first | refine blk_drewN ?_ _ | refine blk_drew ?_ | refine blk_alloc ?_ _)); exact BK184.out⟩, ⟨by (with_reducible repeat (first | refine blk_drewN ?_ _ | refine blk_drew ?_ | refine blk_alloc ?_ _)); refine blk_put (cs := #[.int .i64 t185, .int .i64 t186, .int .i64 t187, .int .i64 t188, .bool false]) ?_ 4 _ rfl; (with_reducible repeat (first | refine blk_drewN ?_ _ | refine blk_drew ?_ | refine blk_alloc ?_ _)); refine blk_put (cs := #[.int .i64 t185, .int .i64 t186, .int .i64 t187, .int .i64 0, .bool false]) ?_ 3 _ rfl; (with_reducible repeat (first | refine blk_drewN ?_ _ | refine blk_drew ?_ | refine blk_alloc ?_ _)); refine blk_put (cs := #[.int .i64 t185, .int .i64 t186, .int .i64 0, .int .i64 0, .bool false]) ?_ 2 _ rfl; (with_reducible repeat (first | refine blk_drewN ?_ _ | refine blk_drew ?_ | refine blk_alloc ?_ _)); refine blk_put (cs := #[.int .i64 t185, .int .i64 0, .int .i64 0, .int .i64 0, .bool false]) ?_ 1 _ rfl; (with_reducible repeat (first | refine blk_drewN ?_ _ | refine blk_drew ?_ | refine blk_alloc ?_ _)); refine blk_put (cs := #[.int .i64 0, .int .i64 0, .int .i64 0, .int .i64 0, .bool false]) ?_ 0 _ rfl; (with_reducible repeat (first | refine blk_drewN ?_ _ | refine blk_drew ?_ | refine blk_alloc ?_ _)); exact BK191.out⟩, ⟨by repeat (first | (with_reducible first | exact HB.out | apply below_alloc | apply pw_below_drewN | apply below_drew1 | refine below_set ?_ GE184.out | refine below_set ?_ GE191.out) | exact HB.out)⟩⟩
        case rest =>
          clear HC14
          try clear c1
          try clear c2
          try clear p2
          try clear c4
          try clear c5
          try clear c5b0
          try clear p6
          try clear c8
          try clear c9
          try clear c17
          try clear c20
          try clear c22
          try clear c22b0
          try clear c22b1
          try clear hcz17_0
          try clear hcz17_1
          try clear hcz17_2
          try clear hcz17_3
          try clear hcz17_4
          try clear hcz21_0
          try clear hcz21_1
          try clear hcz21_2
          try clear hcz21_3
          try clear hcz21_4
          try clear hfz17_0
          try clear hfz17_1
          try clear hfz17_2
          try clear hfz17_3
          try clear hfz17_4
          try clear hfz21_0
          try clear hfz21_1
          try clear hfz21_2
          try clear hfz21_3
          try clear hfz21_4
          try clear p2
          obtain ⟨kq, x35_13, rfl, HA, HJ13, BK184, BK191, HB⟩ := hcut
          cases kq with
          | zero => exact absurd HA.out (by simp [pentaglotlaw17_CalendarNext.j1])
          | succ kj13 =>
            have H := HA.out
            clear HA
            simp only [pentaglotlaw17_CalendarNext.j1] at H
            by_cases c23 : x35_13 = true
            · subst c23
              have H1 : (some false) = some r := by rw [if_pos rfl] at H; exact H
              clear H
              have H := H1
              clear H1
              obtain rfl := Option.some.inj H
              go_wp2
              go_ret
              exact ⟨by first | rfl | (simp [errW_none, errW_some] <;> rfl) | (simp [*, errW_none, errW_some] <;> rfl), by repeat (first | (with_reducible first | exact HB.out | apply below_alloc | apply pw_below_drewN | apply below_drew1 | refine below_set ?_ GE184.out | refine below_set ?_ GE191.out) | exact HB.out)⟩
            · replace c23 := Bool.eq_false_iff.mpr c23
              subst c23
              have H1 : ((calendar_MonthDays.f t179 t180).bind fun t193 => (if t181 = t193 then (if (wrap64 (t180 + 1)) = 13 then (some (t185 == 1 && (t186 == (wrap64 (t179 + 1)) && (t187 == 1 && (t188 == 1 && (!t189)))))) else (some (t185 == 1 && (t186 == t179 && (t187 == (wrap64 (t180 + 1)) && (t188 == 1 && (!t189))))))) else (if t180 = 13 then (some (t185 == 1 && (t186 == (wrap64 (t179 + 1)) && (t187 == 1 && (t188 == 1 && (!t189)))))) else (some (t185 == 1 && (t186 == t179 && (t187 == t180 && (t188 == (wrap64 (t181 + 1)) && (!t189))))))))) = some r := by rw [if_neg (show ¬ (false = true) by decide)] at H; exact H
              clear H
              have H := H1
              clear H1
              replace H := Option.bind_eq_some_iff.mp H
              obtain ⟨t193, A240, H⟩ := H
              replace H : (if t181 = t193 then (if (wrap64 (t180 + 1)) = 13 then (some (t185 == 1 && (t186 == (wrap64 (t179 + 1)) && (t187 == 1 && (t188 == 1 && (!t189)))))) else (some (t185 == 1 && (t186 == t179 && (t187 == (wrap64 (t180 + 1)) && (t188 == 1 && (!t189))))))) else (if t180 = 13 then (some (t185 == 1 && (t186 == (wrap64 (t179 + 1)) && (t187 == 1 && (t188 == 1 && (!t189)))))) else (some (t185 == 1 && (t186 == t179 && (t187 == t180 && (t188 == (wrap64 (t181 + 1)) && (!t189)))))))) = some r := H
              have A24 := Aside0.mk A240
              clear A240
              by_cases c25 : t181 = t193
              · rw [if_pos c25] at H
                have c25b0 : (t181 == t193) = true := beq_iff_eq.mpr c25
                have c25b1 : (t181 != t193) = false := bne_eq_false_iff_eq.mpr c25
                clear c25
                by_cases c26 : (wrap64 (t180 + 1)) = 13
                · rw [if_pos c26] at H
                  have c26b0 : ((wrap64 (t180 + 1)) == 13) = true := beq_iff_eq.mpr c26
                  have c26b1 : ((wrap64 (t180 + 1)) != 13) = false := bne_eq_false_iff_eq.mpr c26
                  clear c26
                  obtain rfl := Option.some.inj H
                  have hnb27 := NB184_191.out
                  have hnc27 := NB191_184.out
                  have hcz28_0 : wc.cell? ⟨gb184, 0, none⟩ = some (.int .i64 t178) := (blk_cell BK184.out 0).trans rfl
                  have hcz28_1 : wc.cell? ⟨gb184, 1, none⟩ = some (.int .i64 t179) := (blk_cell BK184.out 1).trans rfl
                  have hcz28_2 : wc.cell? ⟨gb184, 2, none⟩ = some (.int .i64 t180) := (blk_cell BK184.out 2).trans rfl
                  have hcz28_3 : wc.cell? ⟨gb184, 3, none⟩ = some (.int .i64 t181) := (blk_cell BK184.out 3).trans rfl
                  have hcz28_4 : wc.cell? ⟨gb184, 4, none⟩ = some (.bool t182) := (blk_cell BK184.out 4).trans rfl
                  have hfz28_0 := blk_frozen BK184.out 0
                  have hfz28_1 := blk_frozen BK184.out 1
                  have hfz28_2 := blk_frozen BK184.out 2
                  have hfz28_3 := blk_frozen BK184.out 3
                  have hfz28_4 := blk_frozen BK184.out 4
                  try go_wp2_with (first | ((with_reducible refine gate_dst (N := 7) rfl ?_); refine box_event ?hg (N := 7) ?hd (cs := #[.int .i64 0, .int .i64 0, .int .i64 0, .int .i64 0, .bool false]) (t := 30) ?hr ?_; (case hd => rfl); (case hg => rfl); (case hr => first | (go_simp; done) | (go_simp; rfl)); intro gb192 hg w29 hbox hb; have n0_ := Aside0.mk (blk_below (g := gb184) (o := .cells #[.int .i64 t178, .int .i64 t179, .int .i64 t180, .int .i64 t181, .bool t182] 30 (0, 0)) (by (with_reducible repeat (first | refine blk_drewN ?_ _ | refine blk_drew ?_ | refine blk_alloc ?_ _)); exact BK184.out) hb); have n1_ := Aside0.mk (blk_below (g := gb191) (o := .cells #[.int .i64 t185, .int .i64 t186, .int .i64 t187, .int .i64 t188, .bool t189] 30 (0, 0)) (by (with_reducible repeat (first | refine blk_drewN ?_ _ | refine blk_drew ?_ | refine blk_alloc ?_ _)); exact BK191.out) hb); have n2_ := Aside0.mk (below_step (by repeat (first | (with_reducible first | exact HB.out | apply below_alloc | apply pw_below_drewN | apply below_drew1 | refine below_set ?_ GE184.out | refine below_set ?_ GE191.out) | exact HB.out)) hb); have n3_ := Aside0.mk (hbox); have n4_ := Aside0.mk ((by rw [hg]; exact (below_size (by repeat (first | (with_reducible first | exact HB.out | apply below_alloc | apply pw_below_drewN | apply below_drew1 | refine below_set ?_ GE184.out | refine below_set ?_ GE191.out) | exact HB.out))) : w.heap.size ≤ gb192)); have n5_ := Aside0.mk ((by rw [hg]; exact (below_size (by repeat (first | (with_reducible first | exact HB.out | apply below_alloc | apply pw_below_drewN | apply below_drew1 | refine below_set ?_ GE184.out | refine below_set ?_ GE191.out) | exact HB.out))) : w.heap.size ≤ gb192)); have n6_ := Aside0.mk ((by rw [hg]; exact Nat.ne_of_lt (blk_lt (g := gb184) (o := .cells #[.int .i64 t178, .int .i64 t179, .int .i64 t180, .int .i64 t181, .bool t182] 30 (0, 0)) (by (with_reducible repeat (first | refine blk_drewN ?_ _ | refine blk_drew ?_ | refine blk_alloc ?_ _)); exact BK184.out)) : gb184 ≠ gb192)); have n7_ := Aside0.mk ((by rw [hg]; exact Nat.ne_of_gt (blk_lt (g := gb184) (o := .cells #[.int .i64 t178, .int .i64 t179, .int .i64 t180, .int .i64 t181, .bool t182] 30 (0, 0)) (by (with_reducible repeat (first | refine blk_drewN ?_ _ | refine blk_drew ?_ | refine blk_alloc ?_ _)); exact BK184.out)) : gb192 ≠ gb184)); have n8_ := Aside0.mk ((by rw [hg]; exact Nat.ne_of_lt (blk_lt (g := gb191) (o := .cells #[.int .i64 t185, .int .i64 t186, .int .i64 t187, .int .i64 t188, .bool t189] 30 (0, 0)) (by (with_reducible repeat (first | refine blk_drewN ?_ _ | refine blk_drew ?_ | refine blk_alloc ?_ _)); exact BK191.out)) : gb191 ≠ gb192)); have n9_ := Aside0.mk ((by rw [hg]; exact Nat.ne_of_gt (blk_lt (g := gb191) (o := .cells #[.int .i64 t185, .int .i64 t186, .int .i64 t187, .int .i64 t188, .bool t189] 30 (0, 0)) (by (with_reducible repeat (first | refine blk_drewN ?_ _ | refine blk_drew ?_ | refine blk_alloc ?_ _)); exact BK191.out)) : gb192 ≠ gb191)); clear BK184; clear BK191; clear HB; have BK184 := n0_; have BK191 := n1_; have HB := n2_; have BK192 := n3_; have GW192 := n4_; have GE192 := n5_; have NB184_192 := n6_; have NB192_184 := n7_; have NB191_192 := n8_; have NB192_191 := n9_; clear n0_ n1_ n2_ n3_ n4_ n5_ n6_ n7_ n8_ n9_; clear hb hbox hg; have hnb30 := NB192_184.out; have hnc30 := NB184_192.out; have hnb31 := NB192_191.out; have hnc31 := NB191_192.out; have hcz32_0 : w29.cell? ⟨gb192, 0, none⟩ = some (.int .i64 0) := (blk_cell BK192.out 0).trans rfl; have hcz32_1 : w29.cell? ⟨gb192, 1, none⟩ = some (.int .i64 0) := (blk_cell BK192.out 1).trans rfl; have hcz32_2 : w29.cell? ⟨gb192, 2, none⟩ = some (.int .i64 0) := (blk_cell BK192.out 2).trans rfl; have hcz32_3 : w29.cell? ⟨gb192, 3, none⟩ = some (.int .i64 0) := (blk_cell BK192.out 3).trans rfl; have hcz32_4 : w29.cell? ⟨gb192, 4, none⟩ = some (.bool false) := (blk_cell BK192.out 4).trans rfl; have hfz32_0 := blk_frozen BK192.out 0; have hfz32_1 := blk_frozen BK192.out 1; have hfz32_2 := blk_frozen BK192.out 2; have hfz32_3 := blk_frozen BK192.out 3; have hfz32_4 := blk_frozen BK192.out 4))
                  have n0_ : Aside0 ((((((w29.setCell ⟨gb192, 0, none⟩ (.int .i64 1)).setCell ⟨gb192, 1, none⟩ (.int .i64 t179)).setCell ⟨gb192, 2, none⟩ (.int .i64 t180)).setCell ⟨gb192, 3, none⟩ (.int .i64 (wrap64 (t181 + 1)))).setCell ⟨gb192, 4, none⟩ (.bool false)).heap[gb184]? = some (.cells #[.int .i64 t178, .int .i64 t179, .int .i64 t180, .int .i64 t181, .bool t182] 30 (0, 0))) := ⟨by (with_reducible repeat (first | refine blk_drewN ?_ _ | refine blk_drew ?_ | refine blk_alloc ?_ _)); refine blk_far ?_ NB184_192.out _; (with_reducible repeat (first | refine blk_drewN ?_ _ | refine blk_drew ?_ | refine blk_alloc ?_ _)); refine blk_far ?_ NB184_192.out _; (with_reducible repeat (first | refine blk_drewN ?_ _ | refine blk_drew ?_ | refine blk_alloc ?_ _)); refine blk_far ?_ NB184_192.out _; (with_reducible repeat (first | refine blk_drewN ?_ _ | refine blk_drew ?_ | refine blk_alloc ?_ _)); refine blk_far ?_ NB184_192.out _; (with_reducible repeat (first | refine blk_drewN ?_ _ | refine blk_drew ?_ | refine blk_alloc ?_ _)); refine blk_far ?_ NB184_192.out _; (with_reducible repeat (first | refine blk_drewN ?_ _ | refine blk_drew ?_ | refine blk_alloc ?_ _)); exact BK184.out⟩
                  have n1_ : Aside0 ((((((w29.setCell ⟨gb192, 0, none⟩ (.int .i64 1)).setCell ⟨gb192, 1, none⟩ (.int .i64 t179)).setCell ⟨gb192, 2, none⟩ (.int .i64 t180)).setCell ⟨gb192, 3, none⟩ (.int .i64 (wrap64 (t181 + 1)))).setCell ⟨gb192, 4, none⟩ (.bool false)).heap[gb191]? = some (.cells #[.int .i64 t185, .int .i64 t186, .int .i64 t187, .int .i64 t188, .bool t189] 30 (0, 0))) := ⟨by (with_reducible repeat (first | refine blk_drewN ?_ _ | refine blk_drew ?_ | refine blk_alloc ?_ _)); refine blk_far ?_ NB191_192.out _; (with_reducible repeat (first | refine blk_drewN ?_ _ | refine blk_drew ?_ | refine blk_alloc ?_ _)); refine blk_far ?_ NB191_192.out _; (with_reducible repeat (first | refine blk_drewN ?_ _ | refine blk_drew ?_ | refine blk_alloc ?_ _)); refine blk_far ?_ NB191_192.out _; (with_reducible repeat (first | refine blk_drewN ?_ _ | refine blk_drew ?_ | refine blk_alloc ?_ _)); refine blk_far ?_ NB191_192.out _; (with_reducible repeat (first | refine blk_drewN ?_ _ | refine blk_drew ?_ | refine blk_alloc ?_ _)); refine blk_far ?_ NB191_192.out _; (with_reducible repeat (first | refine blk_drewN ?_ _ | refine blk_drew ?_ | refine blk_alloc ?_ _)); exact BK191.out⟩
                  have n2_ : Aside0 ((((((w29.setCell ⟨gb192, 0, none⟩ (.int .i64 1)).setCell ⟨gb192, 1, none⟩ (.int .i64 t179)).setCell ⟨gb192, 2, none⟩ (.int .i64 t180)).setCell ⟨gb192, 3, none⟩ (.int .i64 (wrap64 (t181 + 1)))).setCell ⟨gb192, 4, none⟩ (.bool false)).heap[gb192]? = some (.cells #[.int .i64 1, .int .i64 t179, .int .i64 t180, .int .i64 (wrap64 (t181 + 1)), .bool false] 30 (0, 0))) := ⟨by (with_reducible repeat (first | refine blk_drewN ?_ _ | refine blk_drew ?_ | refine blk_alloc ?_ _)); refine blk_put (cs := #[.int .i64 1, .int .i64 t179, .int .i64 t180, .int .i64 (wrap64 (t181 + 1)), .bool false]) ?_ 4 _ rfl; (with_reducible repeat (first | refine blk_drewN ?_ _ | refine blk_drew ?_ | refine blk_alloc ?_ _)); refine blk_put (cs := #[.int .i64 1, .int .i64 t179, .int .i64 t180, .int .i64 0, .bool false]) ?_ 3 _ rfl; (with_reducible repeat (first | refine blk_drewN ?_ _ | refine blk_drew ?_ | refine blk_alloc ?_ _)); refine blk_put (cs := #[.int .i64 1, .int .i64 t179, .int .i64 0, .int .i64 0, .bool false]) ?_ 2 _ rfl; (with_reducible repeat (first | refine blk_drewN ?_ _ | refine blk_drew ?_ | refine blk_alloc ?_ _)); refine blk_put (cs := #[.int .i64 1, .int .i64 0, .int .i64 0, .int .i64 0, .bool false]) ?_ 1 _ rfl; (with_reducible repeat (first | refine blk_drewN ?_ _ | refine blk_drew ?_ | refine blk_alloc ?_ _)); refine blk_put (cs := #[.int .i64 0, .int .i64 0, .int .i64 0, .int .i64 0, .bool false]) ?_ 0 _ rfl; (with_reducible repeat (first | refine blk_drewN ?_ _ | refine blk_drew ?_ | refine blk_alloc ?_ _)); exact BK192.out⟩
                  have n3_ : Aside0 (Below w.heap.size w (((((w29.setCell ⟨gb192, 0, none⟩ (.int .i64 1)).setCell ⟨gb192, 1, none⟩ (.int .i64 t179)).setCell ⟨gb192, 2, none⟩ (.int .i64 t180)).setCell ⟨gb192, 3, none⟩ (.int .i64 (wrap64 (t181 + 1)))).setCell ⟨gb192, 4, none⟩ (.bool false))) := ⟨by repeat (first | (with_reducible first | exact HB.out | apply below_alloc | apply pw_below_drewN | apply below_drew1 | refine below_set ?_ GE184.out | refine below_set ?_ GE191.out | refine below_set ?_ GE192.out) | exact HB.out)⟩
                  (try clear BK184)
                  (try clear BK191)
                  (try clear BK192)
                  (try clear HB)
                  generalize (((((w29.setCell ⟨gb192, 0, none⟩ (.int .i64 1)).setCell ⟨gb192, 1, none⟩ (.int .i64 t179)).setCell ⟨gb192, 2, none⟩ (.int .i64 t180)).setCell ⟨gb192, 3, none⟩ (.int .i64 (wrap64 (t181 + 1)))).setCell ⟨gb192, 4, none⟩ (.bool false)) = w33 at n0_ n1_ n2_ n3_ ⊢
                  have BK184 := n0_
                  have BK191 := n1_
                  have BK192 := n2_
                  have HB := n3_
                  clear n0_ n1_ n2_ n3_
                  have n0_ := Aside0.mk (blk_drew BK184.out)
                  have n1_ := Aside0.mk (blk_drew BK191.out)
                  have n2_ := Aside0.mk (blk_drew BK192.out)
                  have n3_ := Aside0.mk (below_drew1 HB.out)
                  clear BK184
                  clear BK191
                  clear BK192
                  clear HB
                  have BK184 := n0_
                  have BK191 := n1_
                  have BK192 := n2_
                  have HB := n3_
                  clear n0_ n1_ n2_ n3_
                  refine start_ (n := 8) (S := fun w' => w'.cell? ⟨gb184, 0, none⟩ = some (.int .i64 t178) ∧ w'.cell? ⟨gb184, 1, none⟩ = some (.int .i64 t179) ∧ w'.cell? ⟨gb184, 2, none⟩ = some (.int .i64 t180) ∧ w'.cell? ⟨gb184, 3, none⟩ = some (.int .i64 t181) ∧ w'.cell? ⟨gb184, 4, none⟩ = some (.bool t182)) (ds := []) #[false, false, false, false, false, false, false, false] (by kernel_rfl) rfl rfl ⟨(blk_cell BK184.out 0).trans rfl, (blk_cell BK184.out 1).trans rfl, (blk_cell BK184.out 2).trans rfl, (blk_cell BK184.out 3).trans rfl, (blk_cell BK184.out 4).trans rfl⟩ (fun hHeld => ?_); refine with_tabW pentaglotlaw17_CalendarNext.tab8 pentaglotlaw17_CalendarNext.bits8 (fun HT_ HW_ => ?_)
                  generalize w33.drew = w34 at BK184 BK191 BK192 HB hHeld ⊢
                  refine pure_ (i := 0) (N := some 44) (v := ?_) (a' := ?_) #[true, false, false, false, false, false, false, false] rfl rfl (any_of HT_.out (by kernel_rfl)) (fun _ _ _ h => h) (Or.inl ⟨by rfl, ?_⟩) ?_ ?_
                  rotate_left
                  · intro w'
                    go_simp
                    with_reducible rfl
                  rotate_left
                  · simp only [Act.put, List.setIfInBounds_toArray, List.set_cons_zero, List.set_cons_succ, i64_w, i32_w]
                    rfl
                  refine pure_ (i := 2) (N := some 46) (v := ?_) (a' := ?_) #[true, false, true, false, false, false, false, false] rfl rfl (any_of HT_.out (by kernel_rfl)) (fun _ _ _ h => h) (Or.inl ⟨by rfl, ?_⟩) ?_ ?_
                  rotate_left
                  · intro w'
                    go_simp
                    with_reducible rfl
                  rotate_left
                  · simp only [Act.put, List.setIfInBounds_toArray, List.set_cons_zero, List.set_cons_succ, i64_w, i32_w]
                    rfl
                  refine pure_ (i := 4) (N := some 48) (v := ?_) (a' := ?_) #[true, false, true, false, true, false, false, false] rfl rfl (any_of HT_.out (by kernel_rfl)) (fun _ _ _ h => h) (Or.inl ⟨by rfl, ?_⟩) ?_ ?_
                  rotate_left
                  · intro w'
                    go_simp
                    with_reducible rfl
                  rotate_left
                  · simp only [Act.put, List.setIfInBounds_toArray, List.set_cons_zero, List.set_cons_succ, i64_w, i32_w]
                    rfl
                  refine take_ (i := 1) (N := some 45) (v := ?_) (a' := ?_) #[true, true, true, false, true, false, false, false] rfl rfl (take_ofW HT_.out HW_.out (by kernel_rfl)) (fun _ _ _ h => h) (Or.inl ⟨by rfl, ?_⟩) hHeld ?_ ?_
                  rotate_left
                  · rintro w' ⟨s0, s1, s2, s3, s4⟩
                    go_simp
                    with_reducible rfl
                  rotate_left
                  · simp only [Act.put, List.setIfInBounds_toArray, List.set_cons_zero, List.set_cons_succ, i64_w, i32_w]
                    rfl
                  refine take_ (i := 3) (N := some 47) (v := ?_) (a' := ?_) #[true, true, true, true, true, false, false, false] rfl rfl (take_ofW HT_.out HW_.out (by kernel_rfl)) (fun _ _ _ h => h) (Or.inl ⟨by rfl, ?_⟩) hHeld ?_ ?_
                  rotate_left
                  · rintro w' ⟨s0, s1, s2, s3, s4⟩
                    go_simp
                    with_reducible rfl
                  rotate_left
                  · simp only [Act.put, List.setIfInBounds_toArray, List.set_cons_zero, List.set_cons_succ, i64_w, i32_w]
                    rfl
                  refine take_ (i := 5) (N := some 49) (v := ?_) (a' := ?_) #[true, true, true, true, true, true, false, false] rfl rfl (take_ofW HT_.out HW_.out (by kernel_rfl)) (fun _ _ _ h => h) (Or.inl ⟨by rfl, ?_⟩) hHeld ?_ ?_
                  rotate_left
                  · rintro w' ⟨s0, s1, s2, s3, s4⟩
                    go_simp
                    with_reducible rfl
                  rotate_left
                  · simp only [Act.put, List.setIfInBounds_toArray, List.set_cons_zero, List.set_cons_succ, i64_w, i32_w]
                    rfl
                  refine one_ (i := 6) (N := some 50) #[true, true, true, true, true, true, true, false] rfl rfl (one_of HT_.out (by kernel_rfl)) (by decide) (fun K hK => ?_)
                  refine goes_ Try.func20 (by kernel_rfl) rfl #[.int .i64 t179, .int .i64 t180] (by rfl) rfl rfl (by (try simp only [List.map_toArray, List.map_cons, List.map_nil]); first | done | rfl | (simp only [List.length_drop, List.length_take]; rfl)) ?_
                  with_reducible refine (calendar_MonthDays.calls t179 t180 t193 _ A24.out).mono ?_
                  rintro e w35 ⟨rfl, hb⟩
                  refine ⟨_, rfl, ?_⟩
                  have n0_ := Aside0.mk (blk_below (g := gb184) (o := .cells #[.int .i64 t178, .int .i64 t179, .int .i64 t180, .int .i64 t181, .bool t182] 30 (0, 0)) (by (with_reducible repeat (first | refine blk_drewN ?_ _ | refine blk_drew ?_ | refine blk_alloc ?_ _)); exact BK184.out) hb)
                  have n1_ := Aside0.mk (blk_below (g := gb191) (o := .cells #[.int .i64 t185, .int .i64 t186, .int .i64 t187, .int .i64 t188, .bool t189] 30 (0, 0)) (by (with_reducible repeat (first | refine blk_drewN ?_ _ | refine blk_drew ?_ | refine blk_alloc ?_ _)); exact BK191.out) hb)
                  have n2_ := Aside0.mk (blk_below (g := gb192) (o := .cells #[.int .i64 1, .int .i64 t179, .int .i64 t180, .int .i64 (wrap64 (t181 + 1)), .bool false] 30 (0, 0)) (by (with_reducible repeat (first | refine blk_drewN ?_ _ | refine blk_drew ?_ | refine blk_alloc ?_ _)); exact BK192.out) hb)
                  have n3_ := Aside0.mk (below_step (by repeat (first | (with_reducible first | exact HB.out | apply below_alloc | apply pw_below_drewN | apply below_drew1 | refine below_set ?_ GE184.out | refine below_set ?_ GE191.out | refine below_set ?_ GE192.out) | exact HB.out)) hb)
                  clear BK184
                  clear BK191
                  clear BK192
                  clear HB
                  have BK184 := n0_
                  have BK191 := n1_
                  have BK192 := n2_
                  have HB := n3_
                  clear n0_ n1_ n2_ n3_
                  (try clear hb)
                  (try clear hb2)
                  (try clear hk)
                  (try clear hi)
                  refine hK.out _ _ ⟨(blk_cell BK184.out 0).trans rfl, (blk_cell BK184.out 1).trans rfl, (blk_cell BK184.out 2).trans rfl, (blk_cell BK184.out 3).trans rfl, (blk_cell BK184.out 4).trans rfl⟩ (fun hHeld => ?_)
                  clear hK K
                  refine norm_ (a' := ?_) ?_ ?_
                  rotate_left
                  · show Act.put _ (some 50) _ = _
                    simp only [Act.put, List.setIfInBounds_toArray, List.set_cons_zero, List.set_cons_succ, i64_w, i32_w]
                    rfl
                  refine pure_ (i := 7) (N := some 51) (v := ?_) (a' := ?_) #[true, true, true, true, true, true, true, true] rfl rfl (any_of HT_.out (by kernel_rfl)) (fun _ _ _ h => h) (Or.inl ⟨by rfl, ?_⟩) ?_ ?_
                  rotate_left
                  · intro w'
                    go_simp
                    with_reducible rfl
                  rotate_left
                  · simp only [Act.put, List.setIfInBounds_toArray, List.set_cons_zero, List.set_cons_succ, i64_w, i32_w]
                    rfl
                  refine done_ (done_of HT_.out (by kernel_rfl)) ?_
                  have hcz36_0 : w35.cell? ⟨gb184, 0, none⟩ = some (.int .i64 t178) := (blk_cell BK184.out 0).trans rfl
                  have hcz36_1 : w35.cell? ⟨gb184, 1, none⟩ = some (.int .i64 t179) := (blk_cell BK184.out 1).trans rfl
                  have hcz36_2 : w35.cell? ⟨gb184, 2, none⟩ = some (.int .i64 t180) := (blk_cell BK184.out 2).trans rfl
                  have hcz36_3 : w35.cell? ⟨gb184, 3, none⟩ = some (.int .i64 t181) := (blk_cell BK184.out 3).trans rfl
                  have hcz36_4 : w35.cell? ⟨gb184, 4, none⟩ = some (.bool t182) := (blk_cell BK184.out 4).trans rfl
                  have hfz36_0 := blk_frozen BK184.out 0
                  have hfz36_1 := blk_frozen BK184.out 1
                  have hfz36_2 := blk_frozen BK184.out 2
                  have hfz36_3 := blk_frozen BK184.out 3
                  have hfz36_4 := blk_frozen BK184.out 4
                  have hcz37_0 : w35.cell? ⟨gb192, 0, none⟩ = some (.int .i64 1) := (blk_cell BK192.out 0).trans rfl
                  have hcz37_1 : w35.cell? ⟨gb192, 1, none⟩ = some (.int .i64 t179) := (blk_cell BK192.out 1).trans rfl
                  have hcz37_2 : w35.cell? ⟨gb192, 2, none⟩ = some (.int .i64 t180) := (blk_cell BK192.out 2).trans rfl
                  have hcz37_3 : w35.cell? ⟨gb192, 3, none⟩ = some (.int .i64 (wrap64 (t181 + 1))) := (blk_cell BK192.out 3).trans rfl
                  have hcz37_4 : w35.cell? ⟨gb192, 4, none⟩ = some (.bool false) := (blk_cell BK192.out 4).trans rfl
                  have hfz37_0 := blk_frozen BK192.out 0
                  have hfz37_1 := blk_frozen BK192.out 1
                  have hfz37_2 := blk_frozen BK192.out 2
                  have hfz37_3 := blk_frozen BK192.out 3
                  have hfz37_4 := blk_frozen BK192.out 4
                  have hcz38_0 : w35.cell? ⟨gb191, 0, none⟩ = some (.int .i64 t185) := (blk_cell BK191.out 0).trans rfl
                  have hcz38_1 : w35.cell? ⟨gb191, 1, none⟩ = some (.int .i64 t186) := (blk_cell BK191.out 1).trans rfl
                  have hcz38_2 : w35.cell? ⟨gb191, 2, none⟩ = some (.int .i64 t187) := (blk_cell BK191.out 2).trans rfl
                  have hcz38_3 : w35.cell? ⟨gb191, 3, none⟩ = some (.int .i64 t188) := (blk_cell BK191.out 3).trans rfl
                  have hcz38_4 : w35.cell? ⟨gb191, 4, none⟩ = some (.bool t189) := (blk_cell BK191.out 4).trans rfl
                  have hfz38_0 := blk_frozen BK191.out 0
                  have hfz38_1 := blk_frozen BK191.out 1
                  have hfz38_2 := blk_frozen BK191.out 2
                  have hfz38_3 := blk_frozen BK191.out 3
                  have hfz38_4 := blk_frozen BK191.out 4
                  go_upto_region 12 with (fail)
                  have nb_ : Aside0 (((((((((((w35.setCell ⟨gb192, 0, none⟩ (.int .i64 1)).setCell ⟨gb192, 1, none⟩ (.int .i64 t179)).setCell ⟨gb192, 2, none⟩ (.int .i64 (wrap64 (t180 + 1)))).setCell ⟨gb192, 3, none⟩ (.int .i64 1)).setCell ⟨gb192, 4, none⟩ (.bool false)).setCell ⟨gb192, 0, none⟩ (.int .i64 1)).setCell ⟨gb192, 1, none⟩ (.int .i64 (wrap64 (t179 + 1)))).setCell ⟨gb192, 2, none⟩ (.int .i64 1)).setCell ⟨gb192, 3, none⟩ (.int .i64 1)).setCell ⟨gb192, 4, none⟩ (.bool false)).heap[gb191]? = some (.cells #[.int .i64 t185, .int .i64 t186, .int .i64 t187, .int .i64 t188, .bool t189] 30 (0, 0))) := ⟨(blk_far (blk_far (blk_far (blk_far (blk_far (blk_far (blk_far (blk_far (blk_far (blk_far BK191.out NB191_192.out _) NB191_192.out _) NB191_192.out _) NB191_192.out _) NB191_192.out _) NB191_192.out _) NB191_192.out _) NB191_192.out _) NB191_192.out _) NB191_192.out _)⟩
                  have ng_ : Aside0 (((((((((((w35.setCell ⟨gb192, 0, none⟩ (.int .i64 1)).setCell ⟨gb192, 1, none⟩ (.int .i64 t179)).setCell ⟨gb192, 2, none⟩ (.int .i64 (wrap64 (t180 + 1)))).setCell ⟨gb192, 3, none⟩ (.int .i64 1)).setCell ⟨gb192, 4, none⟩ (.bool false)).setCell ⟨gb192, 0, none⟩ (.int .i64 1)).setCell ⟨gb192, 1, none⟩ (.int .i64 (wrap64 (t179 + 1)))).setCell ⟨gb192, 2, none⟩ (.int .i64 1)).setCell ⟨gb192, 3, none⟩ (.int .i64 1)).setCell ⟨gb192, 4, none⟩ (.bool false)).heap[gb192]? = some (.cells #[.int .i64 1, .int .i64 (wrap64 (t179 + 1)), .int .i64 1, .int .i64 1, .bool false] 30 (0, 0))) := ⟨(blk_put (cs' := #[.int .i64 1, .int .i64 (wrap64 (t179 + 1)), .int .i64 1, .int .i64 1, .bool false]) (blk_put (cs' := #[.int .i64 1, .int .i64 (wrap64 (t179 + 1)), .int .i64 1, .int .i64 1, .bool false]) (blk_put (cs' := #[.int .i64 1, .int .i64 (wrap64 (t179 + 1)), .int .i64 1, .int .i64 1, .bool false]) (blk_put (cs' := #[.int .i64 1, .int .i64 (wrap64 (t179 + 1)), .int .i64 (wrap64 (t180 + 1)), .int .i64 1, .bool false]) (blk_put (cs' := #[.int .i64 1, .int .i64 t179, .int .i64 (wrap64 (t180 + 1)), .int .i64 1, .bool false]) (blk_put (cs' := #[.int .i64 1, .int .i64 t179, .int .i64 (wrap64 (t180 + 1)), .int .i64 1, .bool false]) (blk_put (cs' := #[.int .i64 1, .int .i64 t179, .int .i64 (wrap64 (t180 + 1)), .int .i64 1, .bool false]) (blk_put (cs' := #[.int .i64 1, .int .i64 t179, .int .i64 (wrap64 (t180 + 1)), .int .i64 (wrap64 (t181 + 1)), .bool false]) (blk_put (cs' := #[.int .i64 1, .int .i64 t179, .int .i64 t180, .int .i64 (wrap64 (t181 + 1)), .bool false]) (blk_put (cs' := #[.int .i64 1, .int .i64 t179, .int .i64 t180, .int .i64 (wrap64 (t181 + 1)), .bool false]) BK192.out 0 _ rfl) 1 _ rfl) 2 _ rfl) 3 _ rfl) 4 _ rfl) 0 _ rfl) 1 _ rfl) 2 _ rfl) 3 _ rfl) 4 _ rfl)⟩
                  have nh_ : Aside0 (Below w.heap.size w ((((((((((w35.setCell ⟨gb192, 0, none⟩ (.int .i64 1)).setCell ⟨gb192, 1, none⟩ (.int .i64 t179)).setCell ⟨gb192, 2, none⟩ (.int .i64 (wrap64 (t180 + 1)))).setCell ⟨gb192, 3, none⟩ (.int .i64 1)).setCell ⟨gb192, 4, none⟩ (.bool false)).setCell ⟨gb192, 0, none⟩ (.int .i64 1)).setCell ⟨gb192, 1, none⟩ (.int .i64 (wrap64 (t179 + 1)))).setCell ⟨gb192, 2, none⟩ (.int .i64 1)).setCell ⟨gb192, 3, none⟩ (.int .i64 1)).setCell ⟨gb192, 4, none⟩ (.bool false))) := ⟨(below_set (below_set (below_set (below_set (below_set (below_set (below_set (below_set (below_set (below_set HB.out GE192.out) GE192.out) GE192.out) GE192.out) GE192.out) GE192.out) GE192.out) GE192.out) GE192.out) GE192.out)⟩
                  clear HB BK191 BK192
                  generalize ((((((((((w35.setCell ⟨gb192, 0, none⟩ (.int .i64 1)).setCell ⟨gb192, 1, none⟩ (.int .i64 t179)).setCell ⟨gb192, 2, none⟩ (.int .i64 (wrap64 (t180 + 1)))).setCell ⟨gb192, 3, none⟩ (.int .i64 1)).setCell ⟨gb192, 4, none⟩ (.bool false)).setCell ⟨gb192, 0, none⟩ (.int .i64 1)).setCell ⟨gb192, 1, none⟩ (.int .i64 (wrap64 (t179 + 1)))).setCell ⟨gb192, 2, none⟩ (.int .i64 1)).setCell ⟨gb192, 3, none⟩ (.int .i64 1)).setCell ⟨gb192, 4, none⟩ (.bool false)) = wz at nb_ ng_ nh_ ⊢
                  have HB := nh_
                  clear nh_
                  have hbz_0 : wz.cell? ⟨gb191, 0, none⟩ = some (.int .i64 t185) := (blk_cell nb_.out 0).trans rfl
                  have hbz_1 : wz.cell? ⟨gb191, 1, none⟩ = some (.int .i64 t186) := (blk_cell nb_.out 1).trans rfl
                  have hbz_2 : wz.cell? ⟨gb191, 2, none⟩ = some (.int .i64 t187) := (blk_cell nb_.out 2).trans rfl
                  have hbz_3 : wz.cell? ⟨gb191, 3, none⟩ = some (.int .i64 t188) := (blk_cell nb_.out 3).trans rfl
                  have hbz_4 : wz.cell? ⟨gb191, 4, none⟩ = some (.bool t189) := (blk_cell nb_.out 4).trans rfl
                  have hgz_0 : wz.cell? ⟨gb192, 0, none⟩ = some (.int .i64 1) := (blk_cell ng_.out 0).trans rfl
                  have hgz_1 : wz.cell? ⟨gb192, 1, none⟩ = some (.int .i64 (wrap64 (t179 + 1))) := (blk_cell ng_.out 1).trans rfl
                  have hgz_2 : wz.cell? ⟨gb192, 2, none⟩ = some (.int .i64 1) := (blk_cell ng_.out 2).trans rfl
                  have hgz_3 : wz.cell? ⟨gb192, 3, none⟩ = some (.int .i64 1) := (blk_cell ng_.out 3).trans rfl
                  have hgz_4 : wz.cell? ⟨gb192, 4, none⟩ = some (.bool false) := (blk_cell ng_.out 4).trans rfl
                  clear nb_ ng_
                  go_wp2
                  go_ret
                  exact ⟨by first | rfl | (simp [errW_none, errW_some] <;> rfl) | (simp [*, errW_none, errW_some] <;> rfl), by repeat (first | (with_reducible first | exact HB.out | apply below_alloc | apply pw_below_drewN | apply below_drew1 | refine below_set ?_ GE184.out | refine below_set ?_ GE191.out | refine below_set ?_ GE192.out) | exact HB.out)⟩
                · rw [if_neg c26] at H
                  have c26b0 : ((wrap64 (t180 + 1)) == 13) = false := beq_eq_false_iff_ne.mpr c26
                  have c26b1 : ((wrap64 (t180 + 1)) != 13) = true := bne_iff_ne.mpr c26
                  obtain rfl := Option.some.inj H
                  have hnb39 := NB184_191.out
                  have hnc39 := NB191_184.out
                  have hcz40_0 : wc.cell? ⟨gb184, 0, none⟩ = some (.int .i64 t178) := (blk_cell BK184.out 0).trans rfl
                  have hcz40_1 : wc.cell? ⟨gb184, 1, none⟩ = some (.int .i64 t179) := (blk_cell BK184.out 1).trans rfl
                  have hcz40_2 : wc.cell? ⟨gb184, 2, none⟩ = some (.int .i64 t180) := (blk_cell BK184.out 2).trans rfl
                  have hcz40_3 : wc.cell? ⟨gb184, 3, none⟩ = some (.int .i64 t181) := (blk_cell BK184.out 3).trans rfl
                  have hcz40_4 : wc.cell? ⟨gb184, 4, none⟩ = some (.bool t182) := (blk_cell BK184.out 4).trans rfl
                  have hfz40_0 := blk_frozen BK184.out 0
                  have hfz40_1 := blk_frozen BK184.out 1
                  have hfz40_2 := blk_frozen BK184.out 2
                  have hfz40_3 := blk_frozen BK184.out 3
                  have hfz40_4 := blk_frozen BK184.out 4
                  try go_wp2_with (first | ((with_reducible refine gate_dst (N := 7) rfl ?_); refine box_event ?hg (N := 7) ?hd (cs := #[.int .i64 0, .int .i64 0, .int .i64 0, .int .i64 0, .bool false]) (t := 30) ?hr ?_; (case hd => rfl); (case hg => rfl); (case hr => first | (go_simp; done) | (go_simp; rfl)); intro gb192 hg w41 hbox hb; have n0_ := Aside0.mk (blk_below (g := gb184) (o := .cells #[.int .i64 t178, .int .i64 t179, .int .i64 t180, .int .i64 t181, .bool t182] 30 (0, 0)) (by (with_reducible repeat (first | refine blk_drewN ?_ _ | refine blk_drew ?_ | refine blk_alloc ?_ _)); exact BK184.out) hb); have n1_ := Aside0.mk (blk_below (g := gb191) (o := .cells #[.int .i64 t185, .int .i64 t186, .int .i64 t187, .int .i64 t188, .bool t189] 30 (0, 0)) (by (with_reducible repeat (first | refine blk_drewN ?_ _ | refine blk_drew ?_ | refine blk_alloc ?_ _)); exact BK191.out) hb); have n2_ := Aside0.mk (below_step (by repeat (first | (with_reducible first | exact HB.out | apply below_alloc | apply pw_below_drewN | apply below_drew1 | refine below_set ?_ GE184.out | refine below_set ?_ GE191.out) | exact HB.out)) hb); have n3_ := Aside0.mk (hbox); have n4_ := Aside0.mk ((by rw [hg]; exact (below_size (by repeat (first | (with_reducible first | exact HB.out | apply below_alloc | apply pw_below_drewN | apply below_drew1 | refine below_set ?_ GE184.out | refine below_set ?_ GE191.out) | exact HB.out))) : w.heap.size ≤ gb192)); have n5_ := Aside0.mk ((by rw [hg]; exact (below_size (by repeat (first | (with_reducible first | exact HB.out | apply below_alloc | apply pw_below_drewN | apply below_drew1 | refine below_set ?_ GE184.out | refine below_set ?_ GE191.out) | exact HB.out))) : w.heap.size ≤ gb192)); have n6_ := Aside0.mk ((by rw [hg]; exact Nat.ne_of_lt (blk_lt (g := gb184) (o := .cells #[.int .i64 t178, .int .i64 t179, .int .i64 t180, .int .i64 t181, .bool t182] 30 (0, 0)) (by (with_reducible repeat (first | refine blk_drewN ?_ _ | refine blk_drew ?_ | refine blk_alloc ?_ _)); exact BK184.out)) : gb184 ≠ gb192)); have n7_ := Aside0.mk ((by rw [hg]; exact Nat.ne_of_gt (blk_lt (g := gb184) (o := .cells #[.int .i64 t178, .int .i64 t179, .int .i64 t180, .int .i64 t181, .bool t182] 30 (0, 0)) (by (with_reducible repeat (first | refine blk_drewN ?_ _ | refine blk_drew ?_ | refine blk_alloc ?_ _)); exact BK184.out)) : gb192 ≠ gb184)); have n8_ := Aside0.mk ((by rw [hg]; exact Nat.ne_of_lt (blk_lt (g := gb191) (o := .cells #[.int .i64 t185, .int .i64 t186, .int .i64 t187, .int .i64 t188, .bool t189] 30 (0, 0)) (by (with_reducible repeat (first | refine blk_drewN ?_ _ | refine blk_drew ?_ | refine blk_alloc ?_ _)); exact BK191.out)) : gb191 ≠ gb192)); have n9_ := Aside0.mk ((by rw [hg]; exact Nat.ne_of_gt (blk_lt (g := gb191) (o := .cells #[.int .i64 t185, .int .i64 t186, .int .i64 t187, .int .i64 t188, .bool t189] 30 (0, 0)) (by (with_reducible repeat (first | refine blk_drewN ?_ _ | refine blk_drew ?_ | refine blk_alloc ?_ _)); exact BK191.out)) : gb192 ≠ gb191)); clear BK184; clear BK191; clear HB; have BK184 := n0_; have BK191 := n1_; have HB := n2_; have BK192 := n3_; have GW192 := n4_; have GE192 := n5_; have NB184_192 := n6_; have NB192_184 := n7_; have NB191_192 := n8_; have NB192_191 := n9_; clear n0_ n1_ n2_ n3_ n4_ n5_ n6_ n7_ n8_ n9_; clear hb hbox hg; have hnb42 := NB192_184.out; have hnc42 := NB184_192.out; have hnb43 := NB192_191.out; have hnc43 := NB191_192.out; have hcz44_0 : w41.cell? ⟨gb192, 0, none⟩ = some (.int .i64 0) := (blk_cell BK192.out 0).trans rfl; have hcz44_1 : w41.cell? ⟨gb192, 1, none⟩ = some (.int .i64 0) := (blk_cell BK192.out 1).trans rfl; have hcz44_2 : w41.cell? ⟨gb192, 2, none⟩ = some (.int .i64 0) := (blk_cell BK192.out 2).trans rfl; have hcz44_3 : w41.cell? ⟨gb192, 3, none⟩ = some (.int .i64 0) := (blk_cell BK192.out 3).trans rfl; have hcz44_4 : w41.cell? ⟨gb192, 4, none⟩ = some (.bool false) := (blk_cell BK192.out 4).trans rfl; have hfz44_0 := blk_frozen BK192.out 0; have hfz44_1 := blk_frozen BK192.out 1; have hfz44_2 := blk_frozen BK192.out 2; have hfz44_3 := blk_frozen BK192.out 3; have hfz44_4 := blk_frozen BK192.out 4))
                  have n0_ : Aside0 ((((((w41.setCell ⟨gb192, 0, none⟩ (.int .i64 1)).setCell ⟨gb192, 1, none⟩ (.int .i64 t179)).setCell ⟨gb192, 2, none⟩ (.int .i64 t180)).setCell ⟨gb192, 3, none⟩ (.int .i64 (wrap64 (t181 + 1)))).setCell ⟨gb192, 4, none⟩ (.bool false)).heap[gb184]? = some (.cells #[.int .i64 t178, .int .i64 t179, .int .i64 t180, .int .i64 t181, .bool t182] 30 (0, 0))) := ⟨by (with_reducible repeat (first | refine blk_drewN ?_ _ | refine blk_drew ?_ | refine blk_alloc ?_ _)); refine blk_far ?_ NB184_192.out _; (with_reducible repeat (first | refine blk_drewN ?_ _ | refine blk_drew ?_ | refine blk_alloc ?_ _)); refine blk_far ?_ NB184_192.out _; (with_reducible repeat (first | refine blk_drewN ?_ _ | refine blk_drew ?_ | refine blk_alloc ?_ _)); refine blk_far ?_ NB184_192.out _; (with_reducible repeat (first | refine blk_drewN ?_ _ | refine blk_drew ?_ | refine blk_alloc ?_ _)); refine blk_far ?_ NB184_192.out _; (with_reducible repeat (first | refine blk_drewN ?_ _ | refine blk_drew ?_ | refine blk_alloc ?_ _)); refine blk_far ?_ NB184_192.out _; (with_reducible repeat (first | refine blk_drewN ?_ _ | refine blk_drew ?_ | refine blk_alloc ?_ _)); exact BK184.out⟩
                  have n1_ : Aside0 ((((((w41.setCell ⟨gb192, 0, none⟩ (.int .i64 1)).setCell ⟨gb192, 1, none⟩ (.int .i64 t179)).setCell ⟨gb192, 2, none⟩ (.int .i64 t180)).setCell ⟨gb192, 3, none⟩ (.int .i64 (wrap64 (t181 + 1)))).setCell ⟨gb192, 4, none⟩ (.bool false)).heap[gb191]? = some (.cells #[.int .i64 t185, .int .i64 t186, .int .i64 t187, .int .i64 t188, .bool t189] 30 (0, 0))) := ⟨by (with_reducible repeat (first | refine blk_drewN ?_ _ | refine blk_drew ?_ | refine blk_alloc ?_ _)); refine blk_far ?_ NB191_192.out _; (with_reducible repeat (first | refine blk_drewN ?_ _ | refine blk_drew ?_ | refine blk_alloc ?_ _)); refine blk_far ?_ NB191_192.out _; (with_reducible repeat (first | refine blk_drewN ?_ _ | refine blk_drew ?_ | refine blk_alloc ?_ _)); refine blk_far ?_ NB191_192.out _; (with_reducible repeat (first | refine blk_drewN ?_ _ | refine blk_drew ?_ | refine blk_alloc ?_ _)); refine blk_far ?_ NB191_192.out _; (with_reducible repeat (first | refine blk_drewN ?_ _ | refine blk_drew ?_ | refine blk_alloc ?_ _)); refine blk_far ?_ NB191_192.out _; (with_reducible repeat (first | refine blk_drewN ?_ _ | refine blk_drew ?_ | refine blk_alloc ?_ _)); exact BK191.out⟩
                  have n2_ : Aside0 ((((((w41.setCell ⟨gb192, 0, none⟩ (.int .i64 1)).setCell ⟨gb192, 1, none⟩ (.int .i64 t179)).setCell ⟨gb192, 2, none⟩ (.int .i64 t180)).setCell ⟨gb192, 3, none⟩ (.int .i64 (wrap64 (t181 + 1)))).setCell ⟨gb192, 4, none⟩ (.bool false)).heap[gb192]? = some (.cells #[.int .i64 1, .int .i64 t179, .int .i64 t180, .int .i64 (wrap64 (t181 + 1)), .bool false] 30 (0, 0))) := ⟨by (with_reducible repeat (first | refine blk_drewN ?_ _ | refine blk_drew ?_ | refine blk_alloc ?_ _)); refine blk_put (cs := #[.int .i64 1, .int .i64 t179, .int .i64 t180, .int .i64 (wrap64 (t181 + 1)), .bool false]) ?_ 4 _ rfl; (with_reducible repeat (first | refine blk_drewN ?_ _ | refine blk_drew ?_ | refine blk_alloc ?_ _)); refine blk_put (cs := #[.int .i64 1, .int .i64 t179, .int .i64 t180, .int .i64 0, .bool false]) ?_ 3 _ rfl; (with_reducible repeat (first | refine blk_drewN ?_ _ | refine blk_drew ?_ | refine blk_alloc ?_ _)); refine blk_put (cs := #[.int .i64 1, .int .i64 t179, .int .i64 0, .int .i64 0, .bool false]) ?_ 2 _ rfl; (with_reducible repeat (first | refine blk_drewN ?_ _ | refine blk_drew ?_ | refine blk_alloc ?_ _)); refine blk_put (cs := #[.int .i64 1, .int .i64 0, .int .i64 0, .int .i64 0, .bool false]) ?_ 1 _ rfl; (with_reducible repeat (first | refine blk_drewN ?_ _ | refine blk_drew ?_ | refine blk_alloc ?_ _)); refine blk_put (cs := #[.int .i64 0, .int .i64 0, .int .i64 0, .int .i64 0, .bool false]) ?_ 0 _ rfl; (with_reducible repeat (first | refine blk_drewN ?_ _ | refine blk_drew ?_ | refine blk_alloc ?_ _)); exact BK192.out⟩
                  have n3_ : Aside0 (Below w.heap.size w (((((w41.setCell ⟨gb192, 0, none⟩ (.int .i64 1)).setCell ⟨gb192, 1, none⟩ (.int .i64 t179)).setCell ⟨gb192, 2, none⟩ (.int .i64 t180)).setCell ⟨gb192, 3, none⟩ (.int .i64 (wrap64 (t181 + 1)))).setCell ⟨gb192, 4, none⟩ (.bool false))) := ⟨by repeat (first | (with_reducible first | exact HB.out | apply below_alloc | apply pw_below_drewN | apply below_drew1 | refine below_set ?_ GE184.out | refine below_set ?_ GE191.out | refine below_set ?_ GE192.out) | exact HB.out)⟩
                  (try clear BK184)
                  (try clear BK191)
                  (try clear BK192)
                  (try clear HB)
                  generalize (((((w41.setCell ⟨gb192, 0, none⟩ (.int .i64 1)).setCell ⟨gb192, 1, none⟩ (.int .i64 t179)).setCell ⟨gb192, 2, none⟩ (.int .i64 t180)).setCell ⟨gb192, 3, none⟩ (.int .i64 (wrap64 (t181 + 1)))).setCell ⟨gb192, 4, none⟩ (.bool false)) = w45 at n0_ n1_ n2_ n3_ ⊢
                  have BK184 := n0_
                  have BK191 := n1_
                  have BK192 := n2_
                  have HB := n3_
                  clear n0_ n1_ n2_ n3_
                  have n0_ := Aside0.mk (blk_drew BK184.out)
                  have n1_ := Aside0.mk (blk_drew BK191.out)
                  have n2_ := Aside0.mk (blk_drew BK192.out)
                  have n3_ := Aside0.mk (below_drew1 HB.out)
                  clear BK184
                  clear BK191
                  clear BK192
                  clear HB
                  have BK184 := n0_
                  have BK191 := n1_
                  have BK192 := n2_
                  have HB := n3_
                  clear n0_ n1_ n2_ n3_
                  refine start_ (n := 8) (S := fun w' => w'.cell? ⟨gb184, 0, none⟩ = some (.int .i64 t178) ∧ w'.cell? ⟨gb184, 1, none⟩ = some (.int .i64 t179) ∧ w'.cell? ⟨gb184, 2, none⟩ = some (.int .i64 t180) ∧ w'.cell? ⟨gb184, 3, none⟩ = some (.int .i64 t181) ∧ w'.cell? ⟨gb184, 4, none⟩ = some (.bool t182)) (ds := []) #[false, false, false, false, false, false, false, false] (by kernel_rfl) rfl rfl ⟨(blk_cell BK184.out 0).trans rfl, (blk_cell BK184.out 1).trans rfl, (blk_cell BK184.out 2).trans rfl, (blk_cell BK184.out 3).trans rfl, (blk_cell BK184.out 4).trans rfl⟩ (fun hHeld => ?_); refine with_tabW pentaglotlaw17_CalendarNext.tab8 pentaglotlaw17_CalendarNext.bits8 (fun HT_ HW_ => ?_)
                  generalize w45.drew = w46 at BK184 BK191 BK192 HB hHeld ⊢
                  refine pure_ (i := 0) (N := some 44) (v := ?_) (a' := ?_) #[true, false, false, false, false, false, false, false] rfl rfl (any_of HT_.out (by kernel_rfl)) (fun _ _ _ h => h) (Or.inl ⟨by rfl, ?_⟩) ?_ ?_
                  rotate_left
                  · intro w'
                    go_simp
                    with_reducible rfl
                  rotate_left
                  · simp only [Act.put, List.setIfInBounds_toArray, List.set_cons_zero, List.set_cons_succ, i64_w, i32_w]
                    rfl
                  refine pure_ (i := 2) (N := some 46) (v := ?_) (a' := ?_) #[true, false, true, false, false, false, false, false] rfl rfl (any_of HT_.out (by kernel_rfl)) (fun _ _ _ h => h) (Or.inl ⟨by rfl, ?_⟩) ?_ ?_
                  rotate_left
                  · intro w'
                    go_simp
                    with_reducible rfl
                  rotate_left
                  · simp only [Act.put, List.setIfInBounds_toArray, List.set_cons_zero, List.set_cons_succ, i64_w, i32_w]
                    rfl
                  refine pure_ (i := 4) (N := some 48) (v := ?_) (a' := ?_) #[true, false, true, false, true, false, false, false] rfl rfl (any_of HT_.out (by kernel_rfl)) (fun _ _ _ h => h) (Or.inl ⟨by rfl, ?_⟩) ?_ ?_
                  rotate_left
                  · intro w'
                    go_simp
                    with_reducible rfl
                  rotate_left
                  · simp only [Act.put, List.setIfInBounds_toArray, List.set_cons_zero, List.set_cons_succ, i64_w, i32_w]
                    rfl
                  refine take_ (i := 1) (N := some 45) (v := ?_) (a' := ?_) #[true, true, true, false, true, false, false, false] rfl rfl (take_ofW HT_.out HW_.out (by kernel_rfl)) (fun _ _ _ h => h) (Or.inl ⟨by rfl, ?_⟩) hHeld ?_ ?_
                  rotate_left
                  · rintro w' ⟨s0, s1, s2, s3, s4⟩
                    go_simp
                    with_reducible rfl
                  rotate_left
                  · simp only [Act.put, List.setIfInBounds_toArray, List.set_cons_zero, List.set_cons_succ, i64_w, i32_w]
                    rfl
                  refine take_ (i := 3) (N := some 47) (v := ?_) (a' := ?_) #[true, true, true, true, true, false, false, false] rfl rfl (take_ofW HT_.out HW_.out (by kernel_rfl)) (fun _ _ _ h => h) (Or.inl ⟨by rfl, ?_⟩) hHeld ?_ ?_
                  rotate_left
                  · rintro w' ⟨s0, s1, s2, s3, s4⟩
                    go_simp
                    with_reducible rfl
                  rotate_left
                  · simp only [Act.put, List.setIfInBounds_toArray, List.set_cons_zero, List.set_cons_succ, i64_w, i32_w]
                    rfl
                  refine take_ (i := 5) (N := some 49) (v := ?_) (a' := ?_) #[true, true, true, true, true, true, false, false] rfl rfl (take_ofW HT_.out HW_.out (by kernel_rfl)) (fun _ _ _ h => h) (Or.inl ⟨by rfl, ?_⟩) hHeld ?_ ?_
                  rotate_left
                  · rintro w' ⟨s0, s1, s2, s3, s4⟩
                    go_simp
                    with_reducible rfl
                  rotate_left
                  · simp only [Act.put, List.setIfInBounds_toArray, List.set_cons_zero, List.set_cons_succ, i64_w, i32_w]
                    rfl
                  refine one_ (i := 6) (N := some 50) #[true, true, true, true, true, true, true, false] rfl rfl (one_of HT_.out (by kernel_rfl)) (by decide) (fun K hK => ?_)
                  refine goes_ Try.func20 (by kernel_rfl) rfl #[.int .i64 t179, .int .i64 t180] (by rfl) rfl rfl (by (try simp only [List.map_toArray, List.map_cons, List.map_nil]); first | done | rfl | (simp only [List.length_drop, List.length_take]; rfl)) ?_
                  with_reducible refine (calendar_MonthDays.calls t179 t180 t193 _ A24.out).mono ?_
                  rintro e w47 ⟨rfl, hb⟩
                  refine ⟨_, rfl, ?_⟩
                  have n0_ := Aside0.mk (blk_below (g := gb184) (o := .cells #[.int .i64 t178, .int .i64 t179, .int .i64 t180, .int .i64 t181, .bool t182] 30 (0, 0)) (by (with_reducible repeat (first | refine blk_drewN ?_ _ | refine blk_drew ?_ | refine blk_alloc ?_ _)); exact BK184.out) hb)
                  have n1_ := Aside0.mk (blk_below (g := gb191) (o := .cells #[.int .i64 t185, .int .i64 t186, .int .i64 t187, .int .i64 t188, .bool t189] 30 (0, 0)) (by (with_reducible repeat (first | refine blk_drewN ?_ _ | refine blk_drew ?_ | refine blk_alloc ?_ _)); exact BK191.out) hb)
                  have n2_ := Aside0.mk (blk_below (g := gb192) (o := .cells #[.int .i64 1, .int .i64 t179, .int .i64 t180, .int .i64 (wrap64 (t181 + 1)), .bool false] 30 (0, 0)) (by (with_reducible repeat (first | refine blk_drewN ?_ _ | refine blk_drew ?_ | refine blk_alloc ?_ _)); exact BK192.out) hb)
                  have n3_ := Aside0.mk (below_step (by repeat (first | (with_reducible first | exact HB.out | apply below_alloc | apply pw_below_drewN | apply below_drew1 | refine below_set ?_ GE184.out | refine below_set ?_ GE191.out | refine below_set ?_ GE192.out) | exact HB.out)) hb)
                  clear BK184
                  clear BK191
                  clear BK192
                  clear HB
                  have BK184 := n0_
                  have BK191 := n1_
                  have BK192 := n2_
                  have HB := n3_
                  clear n0_ n1_ n2_ n3_
                  (try clear hb)
                  (try clear hb2)
                  (try clear hk)
                  (try clear hi)
                  refine hK.out _ _ ⟨(blk_cell BK184.out 0).trans rfl, (blk_cell BK184.out 1).trans rfl, (blk_cell BK184.out 2).trans rfl, (blk_cell BK184.out 3).trans rfl, (blk_cell BK184.out 4).trans rfl⟩ (fun hHeld => ?_)
                  clear hK K
                  refine norm_ (a' := ?_) ?_ ?_
                  rotate_left
                  · show Act.put _ (some 50) _ = _
                    simp only [Act.put, List.setIfInBounds_toArray, List.set_cons_zero, List.set_cons_succ, i64_w, i32_w]
                    rfl
                  refine pure_ (i := 7) (N := some 51) (v := ?_) (a' := ?_) #[true, true, true, true, true, true, true, true] rfl rfl (any_of HT_.out (by kernel_rfl)) (fun _ _ _ h => h) (Or.inl ⟨by rfl, ?_⟩) ?_ ?_
                  rotate_left
                  · intro w'
                    go_simp
                    with_reducible rfl
                  rotate_left
                  · simp only [Act.put, List.setIfInBounds_toArray, List.set_cons_zero, List.set_cons_succ, i64_w, i32_w]
                    rfl
                  refine done_ (done_of HT_.out (by kernel_rfl)) ?_
                  have hcz48_0 : w47.cell? ⟨gb184, 0, none⟩ = some (.int .i64 t178) := (blk_cell BK184.out 0).trans rfl
                  have hcz48_1 : w47.cell? ⟨gb184, 1, none⟩ = some (.int .i64 t179) := (blk_cell BK184.out 1).trans rfl
                  have hcz48_2 : w47.cell? ⟨gb184, 2, none⟩ = some (.int .i64 t180) := (blk_cell BK184.out 2).trans rfl
                  have hcz48_3 : w47.cell? ⟨gb184, 3, none⟩ = some (.int .i64 t181) := (blk_cell BK184.out 3).trans rfl
                  have hcz48_4 : w47.cell? ⟨gb184, 4, none⟩ = some (.bool t182) := (blk_cell BK184.out 4).trans rfl
                  have hfz48_0 := blk_frozen BK184.out 0
                  have hfz48_1 := blk_frozen BK184.out 1
                  have hfz48_2 := blk_frozen BK184.out 2
                  have hfz48_3 := blk_frozen BK184.out 3
                  have hfz48_4 := blk_frozen BK184.out 4
                  have hcz49_0 : w47.cell? ⟨gb192, 0, none⟩ = some (.int .i64 1) := (blk_cell BK192.out 0).trans rfl
                  have hcz49_1 : w47.cell? ⟨gb192, 1, none⟩ = some (.int .i64 t179) := (blk_cell BK192.out 1).trans rfl
                  have hcz49_2 : w47.cell? ⟨gb192, 2, none⟩ = some (.int .i64 t180) := (blk_cell BK192.out 2).trans rfl
                  have hcz49_3 : w47.cell? ⟨gb192, 3, none⟩ = some (.int .i64 (wrap64 (t181 + 1))) := (blk_cell BK192.out 3).trans rfl
                  have hcz49_4 : w47.cell? ⟨gb192, 4, none⟩ = some (.bool false) := (blk_cell BK192.out 4).trans rfl
                  have hfz49_0 := blk_frozen BK192.out 0
                  have hfz49_1 := blk_frozen BK192.out 1
                  have hfz49_2 := blk_frozen BK192.out 2
                  have hfz49_3 := blk_frozen BK192.out 3
                  have hfz49_4 := blk_frozen BK192.out 4
                  have hcz50_0 : w47.cell? ⟨gb191, 0, none⟩ = some (.int .i64 t185) := (blk_cell BK191.out 0).trans rfl
                  have hcz50_1 : w47.cell? ⟨gb191, 1, none⟩ = some (.int .i64 t186) := (blk_cell BK191.out 1).trans rfl
                  have hcz50_2 : w47.cell? ⟨gb191, 2, none⟩ = some (.int .i64 t187) := (blk_cell BK191.out 2).trans rfl
                  have hcz50_3 : w47.cell? ⟨gb191, 3, none⟩ = some (.int .i64 t188) := (blk_cell BK191.out 3).trans rfl
                  have hcz50_4 : w47.cell? ⟨gb191, 4, none⟩ = some (.bool t189) := (blk_cell BK191.out 4).trans rfl
                  have hfz50_0 := blk_frozen BK191.out 0
                  have hfz50_1 := blk_frozen BK191.out 1
                  have hfz50_2 := blk_frozen BK191.out 2
                  have hfz50_3 := blk_frozen BK191.out 3
                  have hfz50_4 := blk_frozen BK191.out 4
                  try go_wp2
                  go_ret
                  exact ⟨by first | rfl | (simp [errW_none, errW_some] <;> rfl) | (simp [*, errW_none, errW_some] <;> rfl), by repeat (first | (with_reducible first | exact HB.out | apply below_alloc | apply pw_below_drewN | apply below_drew1 | refine below_set ?_ GE184.out | refine below_set ?_ GE191.out | refine below_set ?_ GE192.out) | exact HB.out)⟩
              · rw [if_neg c25] at H
                have c25b0 : (t181 == t193) = false := beq_eq_false_iff_ne.mpr c25
                have c25b1 : (t181 != t193) = true := bne_iff_ne.mpr c25
                by_cases c51 : t180 = 13
                · rw [if_pos c51] at H
                  have c51b0 : (t180 == 13) = true := beq_iff_eq.mpr c51
                  have c51b1 : (t180 != 13) = false := bne_eq_false_iff_eq.mpr c51
                  clear c51
                  obtain rfl := Option.some.inj H
                  have hnb52 := NB184_191.out
                  have hnc52 := NB191_184.out
                  have hcz53_0 : wc.cell? ⟨gb184, 0, none⟩ = some (.int .i64 t178) := (blk_cell BK184.out 0).trans rfl
                  have hcz53_1 : wc.cell? ⟨gb184, 1, none⟩ = some (.int .i64 t179) := (blk_cell BK184.out 1).trans rfl
                  have hcz53_2 : wc.cell? ⟨gb184, 2, none⟩ = some (.int .i64 t180) := (blk_cell BK184.out 2).trans rfl
                  have hcz53_3 : wc.cell? ⟨gb184, 3, none⟩ = some (.int .i64 t181) := (blk_cell BK184.out 3).trans rfl
                  have hcz53_4 : wc.cell? ⟨gb184, 4, none⟩ = some (.bool t182) := (blk_cell BK184.out 4).trans rfl
                  have hfz53_0 := blk_frozen BK184.out 0
                  have hfz53_1 := blk_frozen BK184.out 1
                  have hfz53_2 := blk_frozen BK184.out 2
                  have hfz53_3 := blk_frozen BK184.out 3
                  have hfz53_4 := blk_frozen BK184.out 4
                  try go_wp2_with (first | ((with_reducible refine gate_dst (N := 7) rfl ?_); refine box_event ?hg (N := 7) ?hd (cs := #[.int .i64 0, .int .i64 0, .int .i64 0, .int .i64 0, .bool false]) (t := 30) ?hr ?_; (case hd => rfl); (case hg => rfl); (case hr => first | (go_simp; done) | (go_simp; rfl)); intro gb192 hg w54 hbox hb; have n0_ := Aside0.mk (blk_below (g := gb184) (o := .cells #[.int .i64 t178, .int .i64 t179, .int .i64 t180, .int .i64 t181, .bool t182] 30 (0, 0)) (by (with_reducible repeat (first | refine blk_drewN ?_ _ | refine blk_drew ?_ | refine blk_alloc ?_ _)); exact BK184.out) hb); have n1_ := Aside0.mk (blk_below (g := gb191) (o := .cells #[.int .i64 t185, .int .i64 t186, .int .i64 t187, .int .i64 t188, .bool t189] 30 (0, 0)) (by (with_reducible repeat (first | refine blk_drewN ?_ _ | refine blk_drew ?_ | refine blk_alloc ?_ _)); exact BK191.out) hb); have n2_ := Aside0.mk (below_step (by repeat (first | (with_reducible first | exact HB.out | apply below_alloc | apply pw_below_drewN | apply below_drew1 | refine below_set ?_ GE184.out | refine below_set ?_ GE191.out) | exact HB.out)) hb); have n3_ := Aside0.mk (hbox); have n4_ := Aside0.mk ((by rw [hg]; exact (below_size (by repeat (first | (with_reducible first | exact HB.out | apply below_alloc | apply pw_below_drewN | apply below_drew1 | refine below_set ?_ GE184.out | refine below_set ?_ GE191.out) | exact HB.out))) : w.heap.size ≤ gb192)); have n5_ := Aside0.mk ((by rw [hg]; exact (below_size (by repeat (first | (with_reducible first | exact HB.out | apply below_alloc | apply pw_below_drewN | apply below_drew1 | refine below_set ?_ GE184.out | refine below_set ?_ GE191.out) | exact HB.out))) : w.heap.size ≤ gb192)); have n6_ := Aside0.mk ((by rw [hg]; exact Nat.ne_of_lt (blk_lt (g := gb184) (o := .cells #[.int .i64 t178, .int .i64 t179, .int .i64 t180, .int .i64 t181, .bool t182] 30 (0, 0)) (by (with_reducible repeat (first | refine blk_drewN ?_ _ | refine blk_drew ?_ | refine blk_alloc ?_ _)); exact BK184.out)) : gb184 ≠ gb192)); have n7_ := Aside0.mk ((by rw [hg]; exact Nat.ne_of_gt (blk_lt (g := gb184) (o := .cells #[.int .i64 t178, .int .i64 t179, .int .i64 t180, .int .i64 t181, .bool t182] 30 (0, 0)) (by (with_reducible repeat (first | refine blk_drewN ?_ _ | refine blk_drew ?_ | refine blk_alloc ?_ _)); exact BK184.out)) : gb192 ≠ gb184)); have n8_ := Aside0.mk ((by rw [hg]; exact Nat.ne_of_lt (blk_lt (g := gb191) (o := .cells #[.int .i64 t185, .int .i64 t186, .int .i64 t187, .int .i64 t188, .bool t189] 30 (0, 0)) (by (with_reducible repeat (first | refine blk_drewN ?_ _ | refine blk_drew ?_ | refine blk_alloc ?_ _)); exact BK191.out)) : gb191 ≠ gb192)); have n9_ := Aside0.mk ((by rw [hg]; exact Nat.ne_of_gt (blk_lt (g := gb191) (o := .cells #[.int .i64 t185, .int .i64 t186, .int .i64 t187, .int .i64 t188, .bool t189] 30 (0, 0)) (by (with_reducible repeat (first | refine blk_drewN ?_ _ | refine blk_drew ?_ | refine blk_alloc ?_ _)); exact BK191.out)) : gb192 ≠ gb191)); clear BK184; clear BK191; clear HB; have BK184 := n0_; have BK191 := n1_; have HB := n2_; have BK192 := n3_; have GW192 := n4_; have GE192 := n5_; have NB184_192 := n6_; have NB192_184 := n7_; have NB191_192 := n8_; have NB192_191 := n9_; clear n0_ n1_ n2_ n3_ n4_ n5_ n6_ n7_ n8_ n9_; clear hb hbox hg; have hnb55 := NB192_184.out; have hnc55 := NB184_192.out; have hnb56 := NB192_191.out; have hnc56 := NB191_192.out; have hcz57_0 : w54.cell? ⟨gb192, 0, none⟩ = some (.int .i64 0) := (blk_cell BK192.out 0).trans rfl; have hcz57_1 : w54.cell? ⟨gb192, 1, none⟩ = some (.int .i64 0) := (blk_cell BK192.out 1).trans rfl; have hcz57_2 : w54.cell? ⟨gb192, 2, none⟩ = some (.int .i64 0) := (blk_cell BK192.out 2).trans rfl; have hcz57_3 : w54.cell? ⟨gb192, 3, none⟩ = some (.int .i64 0) := (blk_cell BK192.out 3).trans rfl; have hcz57_4 : w54.cell? ⟨gb192, 4, none⟩ = some (.bool false) := (blk_cell BK192.out 4).trans rfl; have hfz57_0 := blk_frozen BK192.out 0; have hfz57_1 := blk_frozen BK192.out 1; have hfz57_2 := blk_frozen BK192.out 2; have hfz57_3 := blk_frozen BK192.out 3; have hfz57_4 := blk_frozen BK192.out 4))
                  have n0_ : Aside0 ((((((w54.setCell ⟨gb192, 0, none⟩ (.int .i64 1)).setCell ⟨gb192, 1, none⟩ (.int .i64 t179)).setCell ⟨gb192, 2, none⟩ (.int .i64 t180)).setCell ⟨gb192, 3, none⟩ (.int .i64 (wrap64 (t181 + 1)))).setCell ⟨gb192, 4, none⟩ (.bool false)).heap[gb184]? = some (.cells #[.int .i64 t178, .int .i64 t179, .int .i64 t180, .int .i64 t181, .bool t182] 30 (0, 0))) := ⟨by (with_reducible repeat (first | refine blk_drewN ?_ _ | refine blk_drew ?_ | refine blk_alloc ?_ _)); refine blk_far ?_ NB184_192.out _; (with_reducible repeat (first | refine blk_drewN ?_ _ | refine blk_drew ?_ | refine blk_alloc ?_ _)); refine blk_far ?_ NB184_192.out _; (with_reducible repeat (first | refine blk_drewN ?_ _ | refine blk_drew ?_ | refine blk_alloc ?_ _)); refine blk_far ?_ NB184_192.out _; (with_reducible repeat (first | refine blk_drewN ?_ _ | refine blk_drew ?_ | refine blk_alloc ?_ _)); refine blk_far ?_ NB184_192.out _; (with_reducible repeat (first | refine blk_drewN ?_ _ | refine blk_drew ?_ | refine blk_alloc ?_ _)); refine blk_far ?_ NB184_192.out _; (with_reducible repeat (first | refine blk_drewN ?_ _ | refine blk_drew ?_ | refine blk_alloc ?_ _)); exact BK184.out⟩
                  have n1_ : Aside0 ((((((w54.setCell ⟨gb192, 0, none⟩ (.int .i64 1)).setCell ⟨gb192, 1, none⟩ (.int .i64 t179)).setCell ⟨gb192, 2, none⟩ (.int .i64 t180)).setCell ⟨gb192, 3, none⟩ (.int .i64 (wrap64 (t181 + 1)))).setCell ⟨gb192, 4, none⟩ (.bool false)).heap[gb191]? = some (.cells #[.int .i64 t185, .int .i64 t186, .int .i64 t187, .int .i64 t188, .bool t189] 30 (0, 0))) := ⟨by (with_reducible repeat (first | refine blk_drewN ?_ _ | refine blk_drew ?_ | refine blk_alloc ?_ _)); refine blk_far ?_ NB191_192.out _; (with_reducible repeat (first | refine blk_drewN ?_ _ | refine blk_drew ?_ | refine blk_alloc ?_ _)); refine blk_far ?_ NB191_192.out _; (with_reducible repeat (first | refine blk_drewN ?_ _ | refine blk_drew ?_ | refine blk_alloc ?_ _)); refine blk_far ?_ NB191_192.out _; (with_reducible repeat (first | refine blk_drewN ?_ _ | refine blk_drew ?_ | refine blk_alloc ?_ _)); refine blk_far ?_ NB191_192.out _; (with_reducible repeat (first | refine blk_drewN ?_ _ | refine blk_drew ?_ | refine blk_alloc ?_ _)); refine blk_far ?_ NB191_192.out _; (with_reducible repeat (first | refine blk_drewN ?_ _ | refine blk_drew ?_ | refine blk_alloc ?_ _)); exact BK191.out⟩
                  have n2_ : Aside0 ((((((w54.setCell ⟨gb192, 0, none⟩ (.int .i64 1)).setCell ⟨gb192, 1, none⟩ (.int .i64 t179)).setCell ⟨gb192, 2, none⟩ (.int .i64 t180)).setCell ⟨gb192, 3, none⟩ (.int .i64 (wrap64 (t181 + 1)))).setCell ⟨gb192, 4, none⟩ (.bool false)).heap[gb192]? = some (.cells #[.int .i64 1, .int .i64 t179, .int .i64 t180, .int .i64 (wrap64 (t181 + 1)), .bool false] 30 (0, 0))) := ⟨by (with_reducible repeat (first | refine blk_drewN ?_ _ | refine blk_drew ?_ | refine blk_alloc ?_ _)); refine blk_put (cs := #[.int .i64 1, .int .i64 t179, .int .i64 t180, .int .i64 (wrap64 (t181 + 1)), .bool false]) ?_ 4 _ rfl; (with_reducible repeat (first | refine blk_drewN ?_ _ | refine blk_drew ?_ | refine blk_alloc ?_ _)); refine blk_put (cs := #[.int .i64 1, .int .i64 t179, .int .i64 t180, .int .i64 0, .bool false]) ?_ 3 _ rfl; (with_reducible repeat (first | refine blk_drewN ?_ _ | refine blk_drew ?_ | refine blk_alloc ?_ _)); refine blk_put (cs := #[.int .i64 1, .int .i64 t179, .int .i64 0, .int .i64 0, .bool false]) ?_ 2 _ rfl; (with_reducible repeat (first | refine blk_drewN ?_ _ | refine blk_drew ?_ | refine blk_alloc ?_ _)); refine blk_put (cs := #[.int .i64 1, .int .i64 0, .int .i64 0, .int .i64 0, .bool false]) ?_ 1 _ rfl; (with_reducible repeat (first | refine blk_drewN ?_ _ | refine blk_drew ?_ | refine blk_alloc ?_ _)); refine blk_put (cs := #[.int .i64 0, .int .i64 0, .int .i64 0, .int .i64 0, .bool false]) ?_ 0 _ rfl; (with_reducible repeat (first | refine blk_drewN ?_ _ | refine blk_drew ?_ | refine blk_alloc ?_ _)); exact BK192.out⟩
                  have n3_ : Aside0 (Below w.heap.size w (((((w54.setCell ⟨gb192, 0, none⟩ (.int .i64 1)).setCell ⟨gb192, 1, none⟩ (.int .i64 t179)).setCell ⟨gb192, 2, none⟩ (.int .i64 t180)).setCell ⟨gb192, 3, none⟩ (.int .i64 (wrap64 (t181 + 1)))).setCell ⟨gb192, 4, none⟩ (.bool false))) := ⟨by repeat (first | (with_reducible first | exact HB.out | apply below_alloc | apply pw_below_drewN | apply below_drew1 | refine below_set ?_ GE184.out | refine below_set ?_ GE191.out | refine below_set ?_ GE192.out) | exact HB.out)⟩
                  (try clear BK184)
                  (try clear BK191)
                  (try clear BK192)
                  (try clear HB)
                  generalize (((((w54.setCell ⟨gb192, 0, none⟩ (.int .i64 1)).setCell ⟨gb192, 1, none⟩ (.int .i64 t179)).setCell ⟨gb192, 2, none⟩ (.int .i64 t180)).setCell ⟨gb192, 3, none⟩ (.int .i64 (wrap64 (t181 + 1)))).setCell ⟨gb192, 4, none⟩ (.bool false)) = w58 at n0_ n1_ n2_ n3_ ⊢
                  have BK184 := n0_
                  have BK191 := n1_
                  have BK192 := n2_
                  have HB := n3_
                  clear n0_ n1_ n2_ n3_
                  have n0_ := Aside0.mk (blk_drew BK184.out)
                  have n1_ := Aside0.mk (blk_drew BK191.out)
                  have n2_ := Aside0.mk (blk_drew BK192.out)
                  have n3_ := Aside0.mk (below_drew1 HB.out)
                  clear BK184
                  clear BK191
                  clear BK192
                  clear HB
                  have BK184 := n0_
                  have BK191 := n1_
                  have BK192 := n2_
                  have HB := n3_
                  clear n0_ n1_ n2_ n3_
                  refine start_ (n := 8) (S := fun w' => w'.cell? ⟨gb184, 0, none⟩ = some (.int .i64 t178) ∧ w'.cell? ⟨gb184, 1, none⟩ = some (.int .i64 t179) ∧ w'.cell? ⟨gb184, 2, none⟩ = some (.int .i64 t180) ∧ w'.cell? ⟨gb184, 3, none⟩ = some (.int .i64 t181) ∧ w'.cell? ⟨gb184, 4, none⟩ = some (.bool t182)) (ds := []) #[false, false, false, false, false, false, false, false] (by kernel_rfl) rfl rfl ⟨(blk_cell BK184.out 0).trans rfl, (blk_cell BK184.out 1).trans rfl, (blk_cell BK184.out 2).trans rfl, (blk_cell BK184.out 3).trans rfl, (blk_cell BK184.out 4).trans rfl⟩ (fun hHeld => ?_); refine with_tabW pentaglotlaw17_CalendarNext.tab8 pentaglotlaw17_CalendarNext.bits8 (fun HT_ HW_ => ?_)
                  generalize w58.drew = w59 at BK184 BK191 BK192 HB hHeld ⊢
                  refine pure_ (i := 0) (N := some 44) (v := ?_) (a' := ?_) #[true, false, false, false, false, false, false, false] rfl rfl (any_of HT_.out (by kernel_rfl)) (fun _ _ _ h => h) (Or.inl ⟨by rfl, ?_⟩) ?_ ?_
                  rotate_left
                  · intro w'
                    go_simp
                    with_reducible rfl
                  rotate_left
                  · simp only [Act.put, List.setIfInBounds_toArray, List.set_cons_zero, List.set_cons_succ, i64_w, i32_w]
                    rfl
                  refine pure_ (i := 2) (N := some 46) (v := ?_) (a' := ?_) #[true, false, true, false, false, false, false, false] rfl rfl (any_of HT_.out (by kernel_rfl)) (fun _ _ _ h => h) (Or.inl ⟨by rfl, ?_⟩) ?_ ?_
                  rotate_left
                  · intro w'
                    go_simp
                    with_reducible rfl
                  rotate_left
                  · simp only [Act.put, List.setIfInBounds_toArray, List.set_cons_zero, List.set_cons_succ, i64_w, i32_w]
                    rfl
                  refine pure_ (i := 4) (N := some 48) (v := ?_) (a' := ?_) #[true, false, true, false, true, false, false, false] rfl rfl (any_of HT_.out (by kernel_rfl)) (fun _ _ _ h => h) (Or.inl ⟨by rfl, ?_⟩) ?_ ?_
                  rotate_left
                  · intro w'
                    go_simp
                    with_reducible rfl
                  rotate_left
                  · simp only [Act.put, List.setIfInBounds_toArray, List.set_cons_zero, List.set_cons_succ, i64_w, i32_w]
                    rfl
                  refine take_ (i := 1) (N := some 45) (v := ?_) (a' := ?_) #[true, true, true, false, true, false, false, false] rfl rfl (take_ofW HT_.out HW_.out (by kernel_rfl)) (fun _ _ _ h => h) (Or.inl ⟨by rfl, ?_⟩) hHeld ?_ ?_
                  rotate_left
                  · rintro w' ⟨s0, s1, s2, s3, s4⟩
                    go_simp
                    with_reducible rfl
                  rotate_left
                  · simp only [Act.put, List.setIfInBounds_toArray, List.set_cons_zero, List.set_cons_succ, i64_w, i32_w]
                    rfl
                  refine take_ (i := 3) (N := some 47) (v := ?_) (a' := ?_) #[true, true, true, true, true, false, false, false] rfl rfl (take_ofW HT_.out HW_.out (by kernel_rfl)) (fun _ _ _ h => h) (Or.inl ⟨by rfl, ?_⟩) hHeld ?_ ?_
                  rotate_left
                  · rintro w' ⟨s0, s1, s2, s3, s4⟩
                    go_simp
                    with_reducible rfl
                  rotate_left
                  · simp only [Act.put, List.setIfInBounds_toArray, List.set_cons_zero, List.set_cons_succ, i64_w, i32_w]
                    rfl
                  refine take_ (i := 5) (N := some 49) (v := ?_) (a' := ?_) #[true, true, true, true, true, true, false, false] rfl rfl (take_ofW HT_.out HW_.out (by kernel_rfl)) (fun _ _ _ h => h) (Or.inl ⟨by rfl, ?_⟩) hHeld ?_ ?_
                  rotate_left
                  · rintro w' ⟨s0, s1, s2, s3, s4⟩
                    go_simp
                    with_reducible rfl
                  rotate_left
                  · simp only [Act.put, List.setIfInBounds_toArray, List.set_cons_zero, List.set_cons_succ, i64_w, i32_w]
                    rfl
                  refine one_ (i := 6) (N := some 50) #[true, true, true, true, true, true, true, false] rfl rfl (one_of HT_.out (by kernel_rfl)) (by decide) (fun K hK => ?_)
                  refine goes_ Try.func20 (by kernel_rfl) rfl #[.int .i64 t179, .int .i64 t180] (by rfl) rfl rfl (by (try simp only [List.map_toArray, List.map_cons, List.map_nil]); first | done | rfl | (simp only [List.length_drop, List.length_take]; rfl)) ?_
                  with_reducible refine (calendar_MonthDays.calls t179 t180 t193 _ A24.out).mono ?_
                  rintro e w60 ⟨rfl, hb⟩
                  refine ⟨_, rfl, ?_⟩
                  have n0_ := Aside0.mk (blk_below (g := gb184) (o := .cells #[.int .i64 t178, .int .i64 t179, .int .i64 t180, .int .i64 t181, .bool t182] 30 (0, 0)) (by (with_reducible repeat (first | refine blk_drewN ?_ _ | refine blk_drew ?_ | refine blk_alloc ?_ _)); exact BK184.out) hb)
                  have n1_ := Aside0.mk (blk_below (g := gb191) (o := .cells #[.int .i64 t185, .int .i64 t186, .int .i64 t187, .int .i64 t188, .bool t189] 30 (0, 0)) (by (with_reducible repeat (first | refine blk_drewN ?_ _ | refine blk_drew ?_ | refine blk_alloc ?_ _)); exact BK191.out) hb)
                  have n2_ := Aside0.mk (blk_below (g := gb192) (o := .cells #[.int .i64 1, .int .i64 t179, .int .i64 t180, .int .i64 (wrap64 (t181 + 1)), .bool false] 30 (0, 0)) (by (with_reducible repeat (first | refine blk_drewN ?_ _ | refine blk_drew ?_ | refine blk_alloc ?_ _)); exact BK192.out) hb)
                  have n3_ := Aside0.mk (below_step (by repeat (first | (with_reducible first | exact HB.out | apply below_alloc | apply pw_below_drewN | apply below_drew1 | refine below_set ?_ GE184.out | refine below_set ?_ GE191.out | refine below_set ?_ GE192.out) | exact HB.out)) hb)
                  clear BK184
                  clear BK191
                  clear BK192
                  clear HB
                  have BK184 := n0_
                  have BK191 := n1_
                  have BK192 := n2_
                  have HB := n3_
                  clear n0_ n1_ n2_ n3_
                  (try clear hb)
                  (try clear hb2)
                  (try clear hk)
                  (try clear hi)
                  refine hK.out _ _ ⟨(blk_cell BK184.out 0).trans rfl, (blk_cell BK184.out 1).trans rfl, (blk_cell BK184.out 2).trans rfl, (blk_cell BK184.out 3).trans rfl, (blk_cell BK184.out 4).trans rfl⟩ (fun hHeld => ?_)
                  clear hK K
                  refine norm_ (a' := ?_) ?_ ?_
                  rotate_left
                  · show Act.put _ (some 50) _ = _
                    simp only [Act.put, List.setIfInBounds_toArray, List.set_cons_zero, List.set_cons_succ, i64_w, i32_w]
                    rfl
                  refine pure_ (i := 7) (N := some 51) (v := ?_) (a' := ?_) #[true, true, true, true, true, true, true, true] rfl rfl (any_of HT_.out (by kernel_rfl)) (fun _ _ _ h => h) (Or.inl ⟨by rfl, ?_⟩) ?_ ?_
                  rotate_left
                  · intro w'
                    go_simp
                    with_reducible rfl
                  rotate_left
                  · simp only [Act.put, List.setIfInBounds_toArray, List.set_cons_zero, List.set_cons_succ, i64_w, i32_w]
                    rfl
                  refine done_ (done_of HT_.out (by kernel_rfl)) ?_
                  have hcz61_0 : w60.cell? ⟨gb192, 0, none⟩ = some (.int .i64 1) := (blk_cell BK192.out 0).trans rfl
                  have hcz61_1 : w60.cell? ⟨gb192, 1, none⟩ = some (.int .i64 t179) := (blk_cell BK192.out 1).trans rfl
                  have hcz61_2 : w60.cell? ⟨gb192, 2, none⟩ = some (.int .i64 t180) := (blk_cell BK192.out 2).trans rfl
                  have hcz61_3 : w60.cell? ⟨gb192, 3, none⟩ = some (.int .i64 (wrap64 (t181 + 1))) := (blk_cell BK192.out 3).trans rfl
                  have hcz61_4 : w60.cell? ⟨gb192, 4, none⟩ = some (.bool false) := (blk_cell BK192.out 4).trans rfl
                  have hfz61_0 := blk_frozen BK192.out 0
                  have hfz61_1 := blk_frozen BK192.out 1
                  have hfz61_2 := blk_frozen BK192.out 2
                  have hfz61_3 := blk_frozen BK192.out 3
                  have hfz61_4 := blk_frozen BK192.out 4
                  have hcz62_0 : w60.cell? ⟨gb184, 0, none⟩ = some (.int .i64 t178) := (blk_cell BK184.out 0).trans rfl
                  have hcz62_1 : w60.cell? ⟨gb184, 1, none⟩ = some (.int .i64 t179) := (blk_cell BK184.out 1).trans rfl
                  have hcz62_2 : w60.cell? ⟨gb184, 2, none⟩ = some (.int .i64 t180) := (blk_cell BK184.out 2).trans rfl
                  have hcz62_3 : w60.cell? ⟨gb184, 3, none⟩ = some (.int .i64 t181) := (blk_cell BK184.out 3).trans rfl
                  have hcz62_4 : w60.cell? ⟨gb184, 4, none⟩ = some (.bool t182) := (blk_cell BK184.out 4).trans rfl
                  have hfz62_0 := blk_frozen BK184.out 0
                  have hfz62_1 := blk_frozen BK184.out 1
                  have hfz62_2 := blk_frozen BK184.out 2
                  have hfz62_3 := blk_frozen BK184.out 3
                  have hfz62_4 := blk_frozen BK184.out 4
                  have hcz63_0 : w60.cell? ⟨gb191, 0, none⟩ = some (.int .i64 t185) := (blk_cell BK191.out 0).trans rfl
                  have hcz63_1 : w60.cell? ⟨gb191, 1, none⟩ = some (.int .i64 t186) := (blk_cell BK191.out 1).trans rfl
                  have hcz63_2 : w60.cell? ⟨gb191, 2, none⟩ = some (.int .i64 t187) := (blk_cell BK191.out 2).trans rfl
                  have hcz63_3 : w60.cell? ⟨gb191, 3, none⟩ = some (.int .i64 t188) := (blk_cell BK191.out 3).trans rfl
                  have hcz63_4 : w60.cell? ⟨gb191, 4, none⟩ = some (.bool t189) := (blk_cell BK191.out 4).trans rfl
                  have hfz63_0 := blk_frozen BK191.out 0
                  have hfz63_1 := blk_frozen BK191.out 1
                  have hfz63_2 := blk_frozen BK191.out 2
                  have hfz63_3 := blk_frozen BK191.out 3
                  have hfz63_4 := blk_frozen BK191.out 4
                  try go_wp2
                  go_ret
                  exact ⟨by first | rfl | (simp [errW_none, errW_some] <;> rfl) | (simp [*, errW_none, errW_some] <;> rfl), by repeat (first | (with_reducible first | exact HB.out | apply below_alloc | apply pw_below_drewN | apply below_drew1 | refine below_set ?_ GE184.out | refine below_set ?_ GE191.out | refine below_set ?_ GE192.out) | exact HB.out)⟩
                · rw [if_neg c51] at H
                  have c51b0 : (t180 == 13) = false := beq_eq_false_iff_ne.mpr c51
                  have c51b1 : (t180 != 13) = true := bne_iff_ne.mpr c51
                  obtain rfl := Option.some.inj H
                  have hnb64 := NB184_191.out
                  have hnc64 := NB191_184.out
                  have hcz65_0 : wc.cell? ⟨gb184, 0, none⟩ = some (.int .i64 t178) := (blk_cell BK184.out 0).trans rfl
                  have hcz65_1 : wc.cell? ⟨gb184, 1, none⟩ = some (.int .i64 t179) := (blk_cell BK184.out 1).trans rfl
                  have hcz65_2 : wc.cell? ⟨gb184, 2, none⟩ = some (.int .i64 t180) := (blk_cell BK184.out 2).trans rfl
                  have hcz65_3 : wc.cell? ⟨gb184, 3, none⟩ = some (.int .i64 t181) := (blk_cell BK184.out 3).trans rfl
                  have hcz65_4 : wc.cell? ⟨gb184, 4, none⟩ = some (.bool t182) := (blk_cell BK184.out 4).trans rfl
                  have hfz65_0 := blk_frozen BK184.out 0
                  have hfz65_1 := blk_frozen BK184.out 1
                  have hfz65_2 := blk_frozen BK184.out 2
                  have hfz65_3 := blk_frozen BK184.out 3
                  have hfz65_4 := blk_frozen BK184.out 4
                  try go_wp2_with (first | ((with_reducible refine gate_dst (N := 7) rfl ?_); refine box_event ?hg (N := 7) ?hd (cs := #[.int .i64 0, .int .i64 0, .int .i64 0, .int .i64 0, .bool false]) (t := 30) ?hr ?_; (case hd => rfl); (case hg => rfl); (case hr => first | (go_simp; done) | (go_simp; rfl)); intro gb192 hg w66 hbox hb; have n0_ := Aside0.mk (blk_below (g := gb184) (o := .cells #[.int .i64 t178, .int .i64 t179, .int .i64 t180, .int .i64 t181, .bool t182] 30 (0, 0)) (by (with_reducible repeat (first | refine blk_drewN ?_ _ | refine blk_drew ?_ | refine blk_alloc ?_ _)); exact BK184.out) hb); have n1_ := Aside0.mk (blk_below (g := gb191) (o := .cells #[.int .i64 t185, .int .i64 t186, .int .i64 t187, .int .i64 t188, .bool t189] 30 (0, 0)) (by (with_reducible repeat (first | refine blk_drewN ?_ _ | refine blk_drew ?_ | refine blk_alloc ?_ _)); exact BK191.out) hb); have n2_ := Aside0.mk (below_step (by repeat (first | (with_reducible first | exact HB.out | apply below_alloc | apply pw_below_drewN | apply below_drew1 | refine below_set ?_ GE184.out | refine below_set ?_ GE191.out) | exact HB.out)) hb); have n3_ := Aside0.mk (hbox); have n4_ := Aside0.mk ((by rw [hg]; exact (below_size (by repeat (first | (with_reducible first | exact HB.out | apply below_alloc | apply pw_below_drewN | apply below_drew1 | refine below_set ?_ GE184.out | refine below_set ?_ GE191.out) | exact HB.out))) : w.heap.size ≤ gb192)); have n5_ := Aside0.mk ((by rw [hg]; exact (below_size (by repeat (first | (with_reducible first | exact HB.out | apply below_alloc | apply pw_below_drewN | apply below_drew1 | refine below_set ?_ GE184.out | refine below_set ?_ GE191.out) | exact HB.out))) : w.heap.size ≤ gb192)); have n6_ := Aside0.mk ((by rw [hg]; exact Nat.ne_of_lt (blk_lt (g := gb184) (o := .cells #[.int .i64 t178, .int .i64 t179, .int .i64 t180, .int .i64 t181, .bool t182] 30 (0, 0)) (by (with_reducible repeat (first | refine blk_drewN ?_ _ | refine blk_drew ?_ | refine blk_alloc ?_ _)); exact BK184.out)) : gb184 ≠ gb192)); have n7_ := Aside0.mk ((by rw [hg]; exact Nat.ne_of_gt (blk_lt (g := gb184) (o := .cells #[.int .i64 t178, .int .i64 t179, .int .i64 t180, .int .i64 t181, .bool t182] 30 (0, 0)) (by (with_reducible repeat (first | refine blk_drewN ?_ _ | refine blk_drew ?_ | refine blk_alloc ?_ _)); exact BK184.out)) : gb192 ≠ gb184)); have n8_ := Aside0.mk ((by rw [hg]; exact Nat.ne_of_lt (blk_lt (g := gb191) (o := .cells #[.int .i64 t185, .int .i64 t186, .int .i64 t187, .int .i64 t188, .bool t189] 30 (0, 0)) (by (with_reducible repeat (first | refine blk_drewN ?_ _ | refine blk_drew ?_ | refine blk_alloc ?_ _)); exact BK191.out)) : gb191 ≠ gb192)); have n9_ := Aside0.mk ((by rw [hg]; exact Nat.ne_of_gt (blk_lt (g := gb191) (o := .cells #[.int .i64 t185, .int .i64 t186, .int .i64 t187, .int .i64 t188, .bool t189] 30 (0, 0)) (by (with_reducible repeat (first | refine blk_drewN ?_ _ | refine blk_drew ?_ | refine blk_alloc ?_ _)); exact BK191.out)) : gb192 ≠ gb191)); clear BK184; clear BK191; clear HB; have BK184 := n0_; have BK191 := n1_; have HB := n2_; have BK192 := n3_; have GW192 := n4_; have GE192 := n5_; have NB184_192 := n6_; have NB192_184 := n7_; have NB191_192 := n8_; have NB192_191 := n9_; clear n0_ n1_ n2_ n3_ n4_ n5_ n6_ n7_ n8_ n9_; clear hb hbox hg; have hnb67 := NB192_184.out; have hnc67 := NB184_192.out; have hnb68 := NB192_191.out; have hnc68 := NB191_192.out; have hcz69_0 : w66.cell? ⟨gb192, 0, none⟩ = some (.int .i64 0) := (blk_cell BK192.out 0).trans rfl; have hcz69_1 : w66.cell? ⟨gb192, 1, none⟩ = some (.int .i64 0) := (blk_cell BK192.out 1).trans rfl; have hcz69_2 : w66.cell? ⟨gb192, 2, none⟩ = some (.int .i64 0) := (blk_cell BK192.out 2).trans rfl; have hcz69_3 : w66.cell? ⟨gb192, 3, none⟩ = some (.int .i64 0) := (blk_cell BK192.out 3).trans rfl; have hcz69_4 : w66.cell? ⟨gb192, 4, none⟩ = some (.bool false) := (blk_cell BK192.out 4).trans rfl; have hfz69_0 := blk_frozen BK192.out 0; have hfz69_1 := blk_frozen BK192.out 1; have hfz69_2 := blk_frozen BK192.out 2; have hfz69_3 := blk_frozen BK192.out 3; have hfz69_4 := blk_frozen BK192.out 4))
                  have n0_ : Aside0 ((((((w66.setCell ⟨gb192, 0, none⟩ (.int .i64 1)).setCell ⟨gb192, 1, none⟩ (.int .i64 t179)).setCell ⟨gb192, 2, none⟩ (.int .i64 t180)).setCell ⟨gb192, 3, none⟩ (.int .i64 (wrap64 (t181 + 1)))).setCell ⟨gb192, 4, none⟩ (.bool false)).heap[gb184]? = some (.cells #[.int .i64 t178, .int .i64 t179, .int .i64 t180, .int .i64 t181, .bool t182] 30 (0, 0))) := ⟨by (with_reducible repeat (first | refine blk_drewN ?_ _ | refine blk_drew ?_ | refine blk_alloc ?_ _)); refine blk_far ?_ NB184_192.out _; (with_reducible repeat (first | refine blk_drewN ?_ _ | refine blk_drew ?_ | refine blk_alloc ?_ _)); refine blk_far ?_ NB184_192.out _; (with_reducible repeat (first | refine blk_drewN ?_ _ | refine blk_drew ?_ | refine blk_alloc ?_ _)); refine blk_far ?_ NB184_192.out _; (with_reducible repeat (first | refine blk_drewN ?_ _ | refine blk_drew ?_ | refine blk_alloc ?_ _)); refine blk_far ?_ NB184_192.out _; (with_reducible repeat (first | refine blk_drewN ?_ _ | refine blk_drew ?_ | refine blk_alloc ?_ _)); refine blk_far ?_ NB184_192.out _; (with_reducible repeat (first | refine blk_drewN ?_ _ | refine blk_drew ?_ | refine blk_alloc ?_ _)); exact BK184.out⟩
                  have n1_ : Aside0 ((((((w66.setCell ⟨gb192, 0, none⟩ (.int .i64 1)).setCell ⟨gb192, 1, none⟩ (.int .i64 t179)).setCell ⟨gb192, 2, none⟩ (.int .i64 t180)).setCell ⟨gb192, 3, none⟩ (.int .i64 (wrap64 (t181 + 1)))).setCell ⟨gb192, 4, none⟩ (.bool false)).heap[gb191]? = some (.cells #[.int .i64 t185, .int .i64 t186, .int .i64 t187, .int .i64 t188, .bool t189] 30 (0, 0))) := ⟨by (with_reducible repeat (first | refine blk_drewN ?_ _ | refine blk_drew ?_ | refine blk_alloc ?_ _)); refine blk_far ?_ NB191_192.out _; (with_reducible repeat (first | refine blk_drewN ?_ _ | refine blk_drew ?_ | refine blk_alloc ?_ _)); refine blk_far ?_ NB191_192.out _; (with_reducible repeat (first | refine blk_drewN ?_ _ | refine blk_drew ?_ | refine blk_alloc ?_ _)); refine blk_far ?_ NB191_192.out _; (with_reducible repeat (first | refine blk_drewN ?_ _ | refine blk_drew ?_ | refine blk_alloc ?_ _)); refine blk_far ?_ NB191_192.out _; (with_reducible repeat (first | refine blk_drewN ?_ _ | refine blk_drew ?_ | refine blk_alloc ?_ _)); refine blk_far ?_ NB191_192.out _; (with_reducible repeat (first | refine blk_drewN ?_ _ | refine blk_drew ?_ | refine blk_alloc ?_ _)); exact BK191.out⟩
                  have n2_ : Aside0 ((((((w66.setCell ⟨gb192, 0, none⟩ (.int .i64 1)).setCell ⟨gb192, 1, none⟩ (.int .i64 t179)).setCell ⟨gb192, 2, none⟩ (.int .i64 t180)).setCell ⟨gb192, 3, none⟩ (.int .i64 (wrap64 (t181 + 1)))).setCell ⟨gb192, 4, none⟩ (.bool false)).heap[gb192]? = some (.cells #[.int .i64 1, .int .i64 t179, .int .i64 t180, .int .i64 (wrap64 (t181 + 1)), .bool false] 30 (0, 0))) := ⟨by (with_reducible repeat (first | refine blk_drewN ?_ _ | refine blk_drew ?_ | refine blk_alloc ?_ _)); refine blk_put (cs := #[.int .i64 1, .int .i64 t179, .int .i64 t180, .int .i64 (wrap64 (t181 + 1)), .bool false]) ?_ 4 _ rfl; (with_reducible repeat (first | refine blk_drewN ?_ _ | refine blk_drew ?_ | refine blk_alloc ?_ _)); refine blk_put (cs := #[.int .i64 1, .int .i64 t179, .int .i64 t180, .int .i64 0, .bool false]) ?_ 3 _ rfl; (with_reducible repeat (first | refine blk_drewN ?_ _ | refine blk_drew ?_ | refine blk_alloc ?_ _)); refine blk_put (cs := #[.int .i64 1, .int .i64 t179, .int .i64 0, .int .i64 0, .bool false]) ?_ 2 _ rfl; (with_reducible repeat (first | refine blk_drewN ?_ _ | refine blk_drew ?_ | refine blk_alloc ?_ _)); refine blk_put (cs := #[.int .i64 1, .int .i64 0, .int .i64 0, .int .i64 0, .bool false]) ?_ 1 _ rfl; (with_reducible repeat (first | refine blk_drewN ?_ _ | refine blk_drew ?_ | refine blk_alloc ?_ _)); refine blk_put (cs := #[.int .i64 0, .int .i64 0, .int .i64 0, .int .i64 0, .bool false]) ?_ 0 _ rfl; (with_reducible repeat (first | refine blk_drewN ?_ _ | refine blk_drew ?_ | refine blk_alloc ?_ _)); exact BK192.out⟩
                  have n3_ : Aside0 (Below w.heap.size w (((((w66.setCell ⟨gb192, 0, none⟩ (.int .i64 1)).setCell ⟨gb192, 1, none⟩ (.int .i64 t179)).setCell ⟨gb192, 2, none⟩ (.int .i64 t180)).setCell ⟨gb192, 3, none⟩ (.int .i64 (wrap64 (t181 + 1)))).setCell ⟨gb192, 4, none⟩ (.bool false))) := ⟨by repeat (first | (with_reducible first | exact HB.out | apply below_alloc | apply pw_below_drewN | apply below_drew1 | refine below_set ?_ GE184.out | refine below_set ?_ GE191.out | refine below_set ?_ GE192.out) | exact HB.out)⟩
                  (try clear BK184)
                  (try clear BK191)
                  (try clear BK192)
                  (try clear HB)
                  generalize (((((w66.setCell ⟨gb192, 0, none⟩ (.int .i64 1)).setCell ⟨gb192, 1, none⟩ (.int .i64 t179)).setCell ⟨gb192, 2, none⟩ (.int .i64 t180)).setCell ⟨gb192, 3, none⟩ (.int .i64 (wrap64 (t181 + 1)))).setCell ⟨gb192, 4, none⟩ (.bool false)) = w70 at n0_ n1_ n2_ n3_ ⊢
                  have BK184 := n0_
                  have BK191 := n1_
                  have BK192 := n2_
                  have HB := n3_
                  clear n0_ n1_ n2_ n3_
                  have n0_ := Aside0.mk (blk_drew BK184.out)
                  have n1_ := Aside0.mk (blk_drew BK191.out)
                  have n2_ := Aside0.mk (blk_drew BK192.out)
                  have n3_ := Aside0.mk (below_drew1 HB.out)
                  clear BK184
                  clear BK191
                  clear BK192
                  clear HB
                  have BK184 := n0_
                  have BK191 := n1_
                  have BK192 := n2_
                  have HB := n3_
                  clear n0_ n1_ n2_ n3_
                  refine start_ (n := 8) (S := fun w' => w'.cell? ⟨gb184, 0, none⟩ = some (.int .i64 t178) ∧ w'.cell? ⟨gb184, 1, none⟩ = some (.int .i64 t179) ∧ w'.cell? ⟨gb184, 2, none⟩ = some (.int .i64 t180) ∧ w'.cell? ⟨gb184, 3, none⟩ = some (.int .i64 t181) ∧ w'.cell? ⟨gb184, 4, none⟩ = some (.bool t182)) (ds := []) #[false, false, false, false, false, false, false, false] (by kernel_rfl) rfl rfl ⟨(blk_cell BK184.out 0).trans rfl, (blk_cell BK184.out 1).trans rfl, (blk_cell BK184.out 2).trans rfl, (blk_cell BK184.out 3).trans rfl, (blk_cell BK184.out 4).trans rfl⟩ (fun hHeld => ?_); refine with_tabW pentaglotlaw17_CalendarNext.tab8 pentaglotlaw17_CalendarNext.bits8 (fun HT_ HW_ => ?_)
                  generalize w70.drew = w71 at BK184 BK191 BK192 HB hHeld ⊢
                  refine pure_ (i := 0) (N := some 44) (v := ?_) (a' := ?_) #[true, false, false, false, false, false, false, false] rfl rfl (any_of HT_.out (by kernel_rfl)) (fun _ _ _ h => h) (Or.inl ⟨by rfl, ?_⟩) ?_ ?_
                  rotate_left
                  · intro w'
                    go_simp
                    with_reducible rfl
                  rotate_left
                  · simp only [Act.put, List.setIfInBounds_toArray, List.set_cons_zero, List.set_cons_succ, i64_w, i32_w]
                    rfl
                  refine pure_ (i := 2) (N := some 46) (v := ?_) (a' := ?_) #[true, false, true, false, false, false, false, false] rfl rfl (any_of HT_.out (by kernel_rfl)) (fun _ _ _ h => h) (Or.inl ⟨by rfl, ?_⟩) ?_ ?_
                  rotate_left
                  · intro w'
                    go_simp
                    with_reducible rfl
                  rotate_left
                  · simp only [Act.put, List.setIfInBounds_toArray, List.set_cons_zero, List.set_cons_succ, i64_w, i32_w]
                    rfl
                  refine pure_ (i := 4) (N := some 48) (v := ?_) (a' := ?_) #[true, false, true, false, true, false, false, false] rfl rfl (any_of HT_.out (by kernel_rfl)) (fun _ _ _ h => h) (Or.inl ⟨by rfl, ?_⟩) ?_ ?_
                  rotate_left
                  · intro w'
                    go_simp
                    with_reducible rfl
                  rotate_left
                  · simp only [Act.put, List.setIfInBounds_toArray, List.set_cons_zero, List.set_cons_succ, i64_w, i32_w]
                    rfl
                  refine take_ (i := 1) (N := some 45) (v := ?_) (a' := ?_) #[true, true, true, false, true, false, false, false] rfl rfl (take_ofW HT_.out HW_.out (by kernel_rfl)) (fun _ _ _ h => h) (Or.inl ⟨by rfl, ?_⟩) hHeld ?_ ?_
                  rotate_left
                  · rintro w' ⟨s0, s1, s2, s3, s4⟩
                    go_simp
                    with_reducible rfl
                  rotate_left
                  · simp only [Act.put, List.setIfInBounds_toArray, List.set_cons_zero, List.set_cons_succ, i64_w, i32_w]
                    rfl
                  refine take_ (i := 3) (N := some 47) (v := ?_) (a' := ?_) #[true, true, true, true, true, false, false, false] rfl rfl (take_ofW HT_.out HW_.out (by kernel_rfl)) (fun _ _ _ h => h) (Or.inl ⟨by rfl, ?_⟩) hHeld ?_ ?_
                  rotate_left
                  · rintro w' ⟨s0, s1, s2, s3, s4⟩
                    go_simp
                    with_reducible rfl
                  rotate_left
                  · simp only [Act.put, List.setIfInBounds_toArray, List.set_cons_zero, List.set_cons_succ, i64_w, i32_w]
                    rfl
                  refine take_ (i := 5) (N := some 49) (v := ?_) (a' := ?_) #[true, true, true, true, true, true, false, false] rfl rfl (take_ofW HT_.out HW_.out (by kernel_rfl)) (fun _ _ _ h => h) (Or.inl ⟨by rfl, ?_⟩) hHeld ?_ ?_
                  rotate_left
                  · rintro w' ⟨s0, s1, s2, s3, s4⟩
                    go_simp
                    with_reducible rfl
                  rotate_left
                  · simp only [Act.put, List.setIfInBounds_toArray, List.set_cons_zero, List.set_cons_succ, i64_w, i32_w]
                    rfl
                  refine one_ (i := 6) (N := some 50) #[true, true, true, true, true, true, true, false] rfl rfl (one_of HT_.out (by kernel_rfl)) (by decide) (fun K hK => ?_)
                  refine goes_ Try.func20 (by kernel_rfl) rfl #[.int .i64 t179, .int .i64 t180] (by rfl) rfl rfl (by (try simp only [List.map_toArray, List.map_cons, List.map_nil]); first | done | rfl | (simp only [List.length_drop, List.length_take]; rfl)) ?_
                  with_reducible refine (calendar_MonthDays.calls t179 t180 t193 _ A24.out).mono ?_
                  rintro e w72 ⟨rfl, hb⟩
                  refine ⟨_, rfl, ?_⟩
                  have n0_ := Aside0.mk (blk_below (g := gb184) (o := .cells #[.int .i64 t178, .int .i64 t179, .int .i64 t180, .int .i64 t181, .bool t182] 30 (0, 0)) (by (with_reducible repeat (first | refine blk_drewN ?_ _ | refine blk_drew ?_ | refine blk_alloc ?_ _)); exact BK184.out) hb)
                  have n1_ := Aside0.mk (blk_below (g := gb191) (o := .cells #[.int .i64 t185, .int .i64 t186, .int .i64 t187, .int .i64 t188, .bool t189] 30 (0, 0)) (by (with_reducible repeat (first | refine blk_drewN ?_ _ | refine blk_drew ?_ | refine blk_alloc ?_ _)); exact BK191.out) hb)
                  have n2_ := Aside0.mk (blk_below (g := gb192) (o := .cells #[.int .i64 1, .int .i64 t179, .int .i64 t180, .int .i64 (wrap64 (t181 + 1)), .bool false] 30 (0, 0)) (by (with_reducible repeat (first | refine blk_drewN ?_ _ | refine blk_drew ?_ | refine blk_alloc ?_ _)); exact BK192.out) hb)
                  have n3_ := Aside0.mk (below_step (by repeat (first | (with_reducible first | exact HB.out | apply below_alloc | apply pw_below_drewN | apply below_drew1 | refine below_set ?_ GE184.out | refine below_set ?_ GE191.out | refine below_set ?_ GE192.out) | exact HB.out)) hb)
                  clear BK184
                  clear BK191
                  clear BK192
                  clear HB
                  have BK184 := n0_
                  have BK191 := n1_
                  have BK192 := n2_
                  have HB := n3_
                  clear n0_ n1_ n2_ n3_
                  (try clear hb)
                  (try clear hb2)
                  (try clear hk)
                  (try clear hi)
                  refine hK.out _ _ ⟨(blk_cell BK184.out 0).trans rfl, (blk_cell BK184.out 1).trans rfl, (blk_cell BK184.out 2).trans rfl, (blk_cell BK184.out 3).trans rfl, (blk_cell BK184.out 4).trans rfl⟩ (fun hHeld => ?_)
                  clear hK K
                  refine norm_ (a' := ?_) ?_ ?_
                  rotate_left
                  · show Act.put _ (some 50) _ = _
                    simp only [Act.put, List.setIfInBounds_toArray, List.set_cons_zero, List.set_cons_succ, i64_w, i32_w]
                    rfl
                  refine pure_ (i := 7) (N := some 51) (v := ?_) (a' := ?_) #[true, true, true, true, true, true, true, true] rfl rfl (any_of HT_.out (by kernel_rfl)) (fun _ _ _ h => h) (Or.inl ⟨by rfl, ?_⟩) ?_ ?_
                  rotate_left
                  · intro w'
                    go_simp
                    with_reducible rfl
                  rotate_left
                  · simp only [Act.put, List.setIfInBounds_toArray, List.set_cons_zero, List.set_cons_succ, i64_w, i32_w]
                    rfl
                  refine done_ (done_of HT_.out (by kernel_rfl)) ?_
                  have hcz73_0 : w72.cell? ⟨gb192, 0, none⟩ = some (.int .i64 1) := (blk_cell BK192.out 0).trans rfl
                  have hcz73_1 : w72.cell? ⟨gb192, 1, none⟩ = some (.int .i64 t179) := (blk_cell BK192.out 1).trans rfl
                  have hcz73_2 : w72.cell? ⟨gb192, 2, none⟩ = some (.int .i64 t180) := (blk_cell BK192.out 2).trans rfl
                  have hcz73_3 : w72.cell? ⟨gb192, 3, none⟩ = some (.int .i64 (wrap64 (t181 + 1))) := (blk_cell BK192.out 3).trans rfl
                  have hcz73_4 : w72.cell? ⟨gb192, 4, none⟩ = some (.bool false) := (blk_cell BK192.out 4).trans rfl
                  have hfz73_0 := blk_frozen BK192.out 0
                  have hfz73_1 := blk_frozen BK192.out 1
                  have hfz73_2 := blk_frozen BK192.out 2
                  have hfz73_3 := blk_frozen BK192.out 3
                  have hfz73_4 := blk_frozen BK192.out 4
                  have hcz74_0 : w72.cell? ⟨gb191, 0, none⟩ = some (.int .i64 t185) := (blk_cell BK191.out 0).trans rfl
                  have hcz74_1 : w72.cell? ⟨gb191, 1, none⟩ = some (.int .i64 t186) := (blk_cell BK191.out 1).trans rfl
                  have hcz74_2 : w72.cell? ⟨gb191, 2, none⟩ = some (.int .i64 t187) := (blk_cell BK191.out 2).trans rfl
                  have hcz74_3 : w72.cell? ⟨gb191, 3, none⟩ = some (.int .i64 t188) := (blk_cell BK191.out 3).trans rfl
                  have hcz74_4 : w72.cell? ⟨gb191, 4, none⟩ = some (.bool t189) := (blk_cell BK191.out 4).trans rfl
                  have hfz74_0 := blk_frozen BK191.out 0
                  have hfz74_1 := blk_frozen BK191.out 1
                  have hfz74_2 := blk_frozen BK191.out 2
                  have hfz74_3 := blk_frozen BK191.out 3
                  have hfz74_4 := blk_frozen BK191.out 4
                  try go_wp2
                  go_ret
                  exact ⟨by first | rfl | (simp [errW_none, errW_some] <;> rfl) | (simp [*, errW_none, errW_some] <;> rfl), by repeat (first | (with_reducible first | exact HB.out | apply below_alloc | apply pw_below_drewN | apply below_drew1 | refine below_set ?_ GE184.out | refine below_set ?_ GE191.out | refine below_set ?_ GE192.out) | exact HB.out)⟩

/-- THE ONE PURE STATEMENT of pentaglotlaw17_CalendarNext: yours. -/
def pentaglotlaw17_CalendarNext.Pure : Prop := ∀ (a0 : Int), (Lit.int .i64 a0).wf = true → ∃ k, pentaglotlaw17_CalendarNext.f k a0 = some true
theorem pentaglotlaw17_CalendarNext.walk (P : pentaglotlaw17_CalendarNext.Pure) (a0 : Int) (w : World) (w0 : (Lit.int .i64 a0).wf = true) :
    Calls Try.prog 8 #[.int .i64 a0] w fun e w' => e = .returned (.bool true) ∧ Below w.heap.size w w' := by
  obtain ⟨k, h⟩ := P a0 w0
  refine (pentaglotlaw17_CalendarNext.calls k a0 true w h).mono ?_
  rintro e w' ⟨rfl, hd⟩
  exact ⟨rfl, hd⟩

end Go.Proofs.Ytifopbfedkmgoaa.P
