-- Written by the session's own program wip/tools/xprint.py out of the translation, with the kit's print.py on a scratch copy; functions given by hand stand among them.
import Derived.Test.YtflknolnclnhfaaPx0
import Derived.Test.YtflknolnclnhfaaPx1
namespace Go.Proofs.Ytflknolnclnhfaa.P
open Go.RowKit Go.Proofs.YtflknolnclnhfaaW.PrintWords Go.Proofs.YtflknolnclnhfaaW.PrintLast Go.Proofs.YtflknolnclnhfaaW.PrintMore
attribute [local go_sem] max2_int min2_int max_two min_two max_three min_three max_four min_four   -- for this text's walks alone
set_option linter.unusedVariables false
set_option linter.unusedSimpArgs false

/-! ### sat_partial: function 33 -/
def sat_partial.l0 : Nat → List Int → List Int → Int → Int → Int → List (S52) → Int → Option (Bool)
  | 0, _, _, _, _, _, _, _ => none
  | k + 1, x1, x7, x8, x9, x108000, x108001, x108002 => if x9 < x8 then (if 0 ≤ x9 then (if x9 < (x7.length : Int) then (if (rd x7 x9) < 0 then (some false) else (if (rd x7 x9) > 2 then (some false) else (sat_partial.l0 k x1 x7 x8 (wrap64 (x9 + 1)) x108000 x108001 x108002))) else (none)) else (none)) else ((sat_Check.f k x108000 x108001 x108002).bind fun t109 => (if t109 = true then (some ((x1.length : Int) == x108000)) else (some false)))
def sat_partial.f (k : Nat) (a0_0 : Int) (l0_1 : List (S52)) (a0_2 : Int) (l1 : List Int) : Option (Bool) := sat_partial.l0 k l1 l1 (l1.length : Int) 0 a0_0 l0_1 a0_2
theorem sat_partial.mono_l : ∀ k, (∀ y0 y1 y2 y3 y4 y5 y6, LeO (sat_partial.l0 k y0 y1 y2 y3 y4 y5 y6) (sat_partial.l0 (k + 1) y0 y1 y2 y3 y4 y5 y6))
  | 0 => fun _ _ _ _ _ _ _ r h => by simp [sat_partial.l0] at h
  | k + 1 => by
    have ih0 := sat_partial.mono_l k
    · intro y0 y1 y2 y3 y4 y5 y6
      unfold sat_partial.l0
      repeat' first
      | (with_reducible exact ih0 _ _ _ _ _ _ _)
      | (with_reducible exact sat_Check.mono _ _ _ _)
      | (with_reducible exact LeO.refl _)
      | (with_reducible exact LeO.none _)
      | (with_reducible refine LeO.ite ?_ ?_)
      | (with_reducible refine LeO.bind ?_ (fun _ => ?_))
      | exact ih0 _ _ _ _ _ _ _
      | exact sat_Check.mono _ _ _ _
      | exact LeO.none _
      | refine LeO.ite ?_ ?_
      | refine LeO.bind ?_ (fun _ => ?_)
theorem sat_partial.mono : ∀ a0 a1 a2 a3 k, LeO (sat_partial.f k a0 a1 a2 a3) (sat_partial.f (k + 1) a0 a1 a2 a3) := by
  intro a0 a1 a2 a3 k
  have ih0 := sat_partial.mono_l k
  unfold sat_partial.f
  repeat' first
      | (with_reducible exact ih0 _ _ _ _ _ _ _)
      | (with_reducible exact sat_Check.mono _ _ _ _)
      | (with_reducible exact LeO.refl _)
      | (with_reducible exact LeO.none _)
      | (with_reducible refine LeO.ite ?_ ?_)
      | (with_reducible refine LeO.bind ?_ (fun _ => ?_))
      | exact ih0 _ _ _ _ _ _ _
      | exact sat_Check.mono _ _ _ _
      | exact LeO.none _
      | refine LeO.ite ?_ ?_
      | refine LeO.bind ?_ (fun _ => ?_)
set_option maxHeartbeats 8000000 in
set_option maxRecDepth 100000 in
theorem sat_partial.calls (k : Nat) (a0_0 : Int) (A0_1 : Option Addr) (c0_1 : Nat) (l0_1 : List (S52)) (a0_2 : Int) (A1 : Option Addr) (c1 : Nat) (l1 : List Int) (r : Bool) (w : World) (hr0_1 : Kd.C k52 w A0_1 l0_1.length l0_1) (hc0_1 : l0_1.length ≤ c0_1) (hr1 : Kd.C (Kd.int .i64) w A1 l1.length l1) (hc1 : l1.length ≤ c1) (h : sat_partial.f k a0_0 l0_1 a0_2 l1 = some r) :
    Calls Try.prog 33 #[.agg #[.int .i64 a0_0, .slice A0_1 l0_1.length c0_1, .int .i64 a0_2], .slice A1 l1.length c1] w fun e w' => e = .returned (.bool r) ∧ Below w.heap.size w w' := by
  have hu24 := Try.underlying24
  have HR0_1 := Aside0.mk hr0_1
  have HC0_1 := Aside0.mk hc0_1
  clear hr0_1 hc0_1
  have HR1 := Aside0.mk hr1
  have HC1 := Aside0.mk hc1
  clear hr1 hc1
  have HB := Aside0.mk (Below.refl w.heap.size w)
  have H : (sat_partial.l0 k l1 l1 (l1.length : Int) 0 a0_0 l0_1 a0_2) = some r := h
  clear h
  have H' := Aside0.mk H
  clear H
  go_enter Try.func33, Try.ntmps33
  go_wp2_with (first | ((with_reducible refine gate_dst (N := 2) rfl ?_); (try (refine gate_guard (by rfl) ?_; dsimp only)); refine box_event ?hg (N := 2) ?hd (cs := #[.int .i64 a0_0, .slice A0_1 l0_1.length c0_1, .int .i64 a0_2]) (t := 24) ?hr ?_; (case hd => rfl); (case hg => rfl); (case hr => first | (go_simp; done) | (go_simp; rfl)); intro gb107 hg w3 hbox hb; have n0_ := Aside0.mk (below_step (by repeat (first | (with_reducible first | exact HB.out | apply below_alloc | apply pw_below_drewN | apply below_drew1) | exact HB.out)) hb); have n1_ := Aside0.mk (hbox); have n2_ := Aside0.mk ((by rw [hg]; exact (below_size (by repeat (first | (with_reducible first | exact HB.out | apply below_alloc | apply pw_below_drewN | apply below_drew1) | exact HB.out))) : w.heap.size ≤ gb107)); have n3_ := Aside0.mk ((by rw [hg]; exact (below_size (by repeat (first | (with_reducible first | exact HB.out | apply below_alloc | apply pw_below_drewN | apply below_drew1) | exact HB.out))) : w.heap.size ≤ gb107)); clear HB; have HB := n0_; have BK107 := n1_; have GW107 := n2_; have GE107 := n3_; clear n0_ n1_ n2_ n3_; clear hb hbox hg))
  go_loopg [9] k (fun kq v9 w' => ∃ (x9_1 : Int), v9 = .int .i64 x9_1 ∧ Aside0 (sat_partial.l0 kq l1 l1 (l1.length : Int) x9_1 a0_0 l0_1 a0_2 = some r) ∧ Aside0 (kq ≤ k) ∧ Aside0 (w'.heap[gb107]? = some (.cells #[.int .i64 a0_0, (.slice A0_1 l0_1.length c0_1), .int .i64 a0_2] 24 (0, 0))) ∧ Aside0 (Below w.heap.size w w'))
  case atStart => exact ⟨(0), (by first | rfl | (simp; done) | (simp [*]; done)), H', ⟨Nat.le_refl _⟩, ⟨by (with_reducible repeat (first | refine blk_drewN ?_ _ | refine blk_drew ?_ | refine blk_alloc ?_ _)); exact BK107.out⟩, ⟨by repeat (first | (with_reducible first | exact HB.out | apply below_alloc | apply pw_below_drewN | apply below_drew1 | refine below_set ?_ GE107.out) | exact HB.out)⟩⟩
  case round =>
    clear H'
    try clear c1
    try clear p2
    try clear c3
    obtain ⟨x9_1, rfl, HA, HK1, BK107, HB⟩ := hrel
    cases gk with
    | zero => exact absurd HA.out (by simp [sat_partial.l0])
    | succ k1 =>
      have H := HA.out
      clear HA
      simp only [sat_partial.l0] at H
      by_cases c4 : x9_1 < (l1.length : Int)
      · rw [if_pos c4] at H
        have c4b0 : decide (x9_1 < (l1.length : Int)) = true := decide_eq_true c4
        clear c4
        by_cases c5 : 0 ≤ x9_1
        · rw [if_pos c5] at H
          have c5b0 : decide (0 ≤ x9_1) = true := decide_eq_true c5
          clear c5
          by_cases c6 : x9_1 < (l1.length : Int)
          · rw [if_pos c6] at H
            have c6b0 : decide (x9_1 < (l1.length : Int)) = true := decide_eq_true c6
            clear c6
            by_cases c7 : (rd l1 x9_1) < 0
            · rw [if_pos c7] at H
              have c7b0 : decide ((rd l1 x9_1) < 0) = true := decide_eq_true c7
              clear c7
              obtain rfl := Option.some.inj H
              have p108 : 0 ≤ (x9_1 : Int) := of_decide_eq_true (by first | (with_reducible assumption) | assumption)
              have q108 : x9_1 < (l1.length : Int) := of_decide_eq_true (by first | (with_reducible assumption) | assumption)
              obtain ⟨ad108, e108, hx108_0⟩ := Kd.at_int HR1.out x9_1 p108 q108
              cases e108
              replace hx108_0 := (HB.out.cell (World.block_lt_of_cell? w _ hx108_0)).trans hx108_0
              replace p108 := eq_true p108
              replace q108 := eq_true q108
              go_wp2
              go_ret
              exact ⟨by first | rfl | (simp [errW_none, errW_some] <;> rfl) | (simp [*, errW_none, errW_some] <;> rfl), by repeat (first | (with_reducible first | exact HB.out | apply below_alloc | apply pw_below_drewN | apply below_drew1 | refine below_set ?_ GE107.out) | exact HB.out)⟩
            · rw [if_neg c7] at H
              have c7b0 : decide ((rd l1 x9_1) < 0) = false := decide_eq_false c7
              clear c7
              by_cases c8 : (rd l1 x9_1) > 2
              · rw [if_pos c8] at H
                have c8b0 : decide (2 < (rd l1 x9_1)) = true := decide_eq_true c8
                clear c8
                obtain rfl := Option.some.inj H
                have p108 : 0 ≤ (x9_1 : Int) := of_decide_eq_true (by first | (with_reducible assumption) | assumption)
                have q108 : x9_1 < (l1.length : Int) := of_decide_eq_true (by first | (with_reducible assumption) | assumption)
                obtain ⟨ad108, e108, hx108_0⟩ := Kd.at_int HR1.out x9_1 p108 q108
                cases e108
                replace hx108_0 := (HB.out.cell (World.block_lt_of_cell? w _ hx108_0)).trans hx108_0
                replace p108 := eq_true p108
                replace q108 := eq_true q108
                go_wp2
                go_ret
                exact ⟨by first | rfl | (simp [errW_none, errW_some] <;> rfl) | (simp [*, errW_none, errW_some] <;> rfl), by repeat (first | (with_reducible first | exact HB.out | apply below_alloc | apply pw_below_drewN | apply below_drew1 | refine below_set ?_ GE107.out) | exact HB.out)⟩
              · rw [if_neg c8] at H
                have c8b0 : decide (2 < (rd l1 x9_1)) = false := decide_eq_false c8
                clear c8
                have H' := Aside0.mk H
                clear H
                have p108 : 0 ≤ (x9_1 : Int) := of_decide_eq_true (by first | (with_reducible assumption) | assumption)
                have q108 : x9_1 < (l1.length : Int) := of_decide_eq_true (by first | (with_reducible assumption) | assumption)
                obtain ⟨ad108, e108, hx108_0⟩ := Kd.at_int HR1.out x9_1 p108 q108
                cases e108
                replace hx108_0 := (HB.out.cell (World.block_lt_of_cell? w _ hx108_0)).trans hx108_0
                replace p108 := eq_true p108
                replace q108 := eq_true q108
                go_wp2
                go_roundg k1
                case measure => have := HK1.out; omega
                case rel => exact ⟨(wrap64 (x9_1 + 1)), (by first | rfl | (simp; done) | (simp [*]; done)), H', ⟨by have := HK1.out; omega⟩, ⟨by (with_reducible repeat (first | refine blk_drewN ?_ _ | refine blk_drew ?_ | refine blk_alloc ?_ _)); exact BK107.out⟩, ⟨by repeat (first | (with_reducible first | exact HB.out | apply below_alloc | apply pw_below_drewN | apply below_drew1 | refine below_set ?_ GE107.out) | exact HB.out)⟩⟩
          · rw [if_neg c6] at H
            exact absurd H (by simp)
        · rw [if_neg c5] at H
          exact absurd H (by simp)
      · rw [if_neg c4] at H
        have c4b0 : decide (x9_1 < (l1.length : Int)) = false := decide_eq_false c4
        clear c4
        replace H := Option.bind_eq_some_iff.mp H
        obtain ⟨t109, A90, H⟩ := H
        replace H : (if t109 = true then (some ((l1.length : Int) == a0_0)) else (some false)) = some r := H
        have A9 := Aside0.mk A90
        clear A90
        by_cases c10 : t109 = true
        · subst c10
          have H1 : (some ((l1.length : Int) == a0_0)) = some r := by rw [if_pos rfl] at H; exact H
          clear H
          have H := H1
          clear H1
          obtain rfl := Option.some.inj H
          have hcz11_0 : wr.cell? ⟨gb107, 0, none⟩ = some (.int .i64 a0_0) := (blk_cell BK107.out 0).trans rfl
          have hcz11_1 : wr.cell? ⟨gb107, 1, none⟩ = some (.slice A0_1 l0_1.length c0_1) := (blk_cell BK107.out 1).trans rfl
          have hcz11_2 : wr.cell? ⟨gb107, 2, none⟩ = some (.int .i64 a0_2) := (blk_cell BK107.out 2).trans rfl
          have hfz11_0 := blk_frozen BK107.out 0
          have hfz11_1 := blk_frozen BK107.out 1
          have hfz11_2 := blk_frozen BK107.out 2
          go_wp2_with (first | ((with_reducible refine gate_callee (f := 17) rfl ?_); refine goesL_ (some 21) rfl rfl Try.func17 (by kernel_rfl) rfl #[.agg #[.int .i64 a0_0, .slice A0_1 l0_1.length c0_1, .int .i64 a0_2]] rfl (by (try simp only [List.map_toArray, List.map_cons, List.map_nil]); first | done | rfl | (simp only [List.length_drop, List.length_take]; rfl)) ?_; (with_reducible refine (sat_Check.calls k1 a0_0 _ _ l0_1 a0_2 true _ ?side1 ?side2 A9.out).mono ?_); (case side1 => repeat (first | exact (Kd.C_below HR0_1.out HB.out) | (with_reducible refine Kd.C_alloc ?_ _) | (with_reducible refine Kd.C_drewN ?_ _) | (with_reducible refine Kd.C_drew ?_))); (case side2 => exact HC0_1.out); rintro e w12 ⟨rfl, hb⟩; refine ⟨_, rfl, ?_⟩; have n0_ := Aside0.mk (blk_below (g := gb107) (o := .cells #[.int .i64 a0_0, .slice A0_1 l0_1.length c0_1, .int .i64 a0_2] 24 (0, 0)) (by (with_reducible repeat (first | refine blk_drewN ?_ _ | refine blk_drew ?_ | refine blk_alloc ?_ _)); exact BK107.out) hb); have n1_ := Aside0.mk (below_step (by repeat (first | (with_reducible first | exact HB.out | apply below_alloc | apply pw_below_drewN | apply below_drew1 | refine below_set ?_ GE107.out) | exact HB.out)) hb); clear BK107; clear HB; have BK107 := n0_; have HB := n1_; clear n0_ n1_; (try clear hb); (try clear hb2); (try clear hk); (try clear hi); have hcz13_0 : w12.cell? ⟨gb107, 0, none⟩ = some (.int .i64 a0_0) := (blk_cell BK107.out 0).trans rfl; have hcz13_1 : w12.cell? ⟨gb107, 1, none⟩ = some (.slice A0_1 l0_1.length c0_1) := (blk_cell BK107.out 1).trans rfl; have hcz13_2 : w12.cell? ⟨gb107, 2, none⟩ = some (.int .i64 a0_2) := (blk_cell BK107.out 2).trans rfl; have hfz13_0 := blk_frozen BK107.out 0; have hfz13_1 := blk_frozen BK107.out 1; have hfz13_2 := blk_frozen BK107.out 2))
          go_ret
          exact ⟨by first | rfl | (simp [errW_none, errW_some] <;> rfl) | (simp [*, errW_none, errW_some] <;> rfl), by repeat (first | (with_reducible first | exact HB.out | apply below_alloc | apply pw_below_drewN | apply below_drew1 | refine below_set ?_ GE107.out) | exact HB.out)⟩
        · replace c10 := Bool.eq_false_iff.mpr c10
          subst c10
          have H1 : (some false) = some r := by rw [if_neg (show ¬ (false = true) by decide)] at H; exact H
          clear H
          have H := H1
          clear H1
          obtain rfl := Option.some.inj H
          have hcz14_0 : wr.cell? ⟨gb107, 0, none⟩ = some (.int .i64 a0_0) := (blk_cell BK107.out 0).trans rfl
          have hcz14_1 : wr.cell? ⟨gb107, 1, none⟩ = some (.slice A0_1 l0_1.length c0_1) := (blk_cell BK107.out 1).trans rfl
          have hcz14_2 : wr.cell? ⟨gb107, 2, none⟩ = some (.int .i64 a0_2) := (blk_cell BK107.out 2).trans rfl
          have hfz14_0 := blk_frozen BK107.out 0
          have hfz14_1 := blk_frozen BK107.out 1
          have hfz14_2 := blk_frozen BK107.out 2
          go_wp2_with (first | ((with_reducible refine gate_callee (f := 17) rfl ?_); refine goesL_ (some 21) rfl rfl Try.func17 (by kernel_rfl) rfl #[.agg #[.int .i64 a0_0, .slice A0_1 l0_1.length c0_1, .int .i64 a0_2]] rfl (by (try simp only [List.map_toArray, List.map_cons, List.map_nil]); first | done | rfl | (simp only [List.length_drop, List.length_take]; rfl)) ?_; (with_reducible refine (sat_Check.calls k1 a0_0 _ _ l0_1 a0_2 false _ ?side1 ?side2 A9.out).mono ?_); (case side1 => repeat (first | exact (Kd.C_below HR0_1.out HB.out) | (with_reducible refine Kd.C_alloc ?_ _) | (with_reducible refine Kd.C_drewN ?_ _) | (with_reducible refine Kd.C_drew ?_))); (case side2 => exact HC0_1.out); rintro e w15 ⟨rfl, hb⟩; refine ⟨_, rfl, ?_⟩; have n0_ := Aside0.mk (blk_below (g := gb107) (o := .cells #[.int .i64 a0_0, .slice A0_1 l0_1.length c0_1, .int .i64 a0_2] 24 (0, 0)) (by (with_reducible repeat (first | refine blk_drewN ?_ _ | refine blk_drew ?_ | refine blk_alloc ?_ _)); exact BK107.out) hb); have n1_ := Aside0.mk (below_step (by repeat (first | (with_reducible first | exact HB.out | apply below_alloc | apply pw_below_drewN | apply below_drew1 | refine below_set ?_ GE107.out) | exact HB.out)) hb); clear BK107; clear HB; have BK107 := n0_; have HB := n1_; clear n0_ n1_; (try clear hb); (try clear hb2); (try clear hk); (try clear hi)))
          go_ret
          exact ⟨by first | rfl | (simp [errW_none, errW_some] <;> rfl) | (simp [*, errW_none, errW_some] <;> rfl), by repeat (first | (with_reducible first | exact HB.out | apply below_alloc | apply pw_below_drewN | apply below_drew1 | refine below_set ?_ GE107.out) | exact HB.out)⟩

-- NOT PRINTED: function 34 (sat_newEvaluator)

-- NOT PRINTED: function 35 (sat_evaluator_output)

/-! ### sat_Three: function 19, by hand -/
def ivals (l : List Int) : Array Value := (l.map (Value.int .i64)).toArray
theorem ivals_size (l : List Int) : (ivals l).size = l.length := by simp [ivals]
theorem ivals_get (l : List Int) (i : Nat) (h : i < l.length) : (ivals l)[i]? = some (.int .i64 (l.getD i 0)) := by
  simp [ivals, List.getD_eq_getElem?_getD, List.getElem?_eq_getElem h]
theorem ivals_set (l : List Int) (i : Nat) (v : Int) : (ivals l).setIfInBounds i (.int .i64 v) = ivals (l.set i v) := by
  simp [ivals, List.map_set]
theorem ivals_made (n : Nat) : madeCells (Value.int .i64 0).cells (n * 1) = ivals (List.replicate n 0) := by
  apply Array.ext
  · simp [size_madeCells, ivals]
  · intro i h1 h2
    simp [madeCells, ivals, Value.cells, Nat.mod_one]
/-- An evaluator: its block e, the row of its values g. -/
structure IsEv (w : World) (e g : Nat) (n0 n2 : Int) (A : Option Addr) (n c m : Nat) (vs : List Int) : Prop where
  he : w.heap[e]? = some (.cells #[.int .i64 n0, .slice A n c, .int .i64 n2, .slice (some ⟨g, 0, none⟩) vs.length m] 69 (0, 0))
  hg : w.heap[g]? = some (.cells (ivals vs) 3 (0, 0))
  ne : e ≠ g
set_option maxHeartbeats 8000000 in
set_option maxRecDepth 100000 in
theorem newEvaluator_any (n0 : Int) (A : Option Addr) (c : Nat) (gs : List S52) (n2 : Int) (w : World) (hr : Kd.C k52 w A gs.length gs) (hl : gs.length ≤ 1000000) :
    Calls Try.prog 34 #[.agg #[.int .i64 n0, .slice A gs.length c, .int .i64 n2]] w fun e w' => ∃ b g, e = .returned (.pointer (some ⟨b, 0, none⟩)) ∧ w.heap.size ≤ b ∧ w.heap.size ≤ g ∧ IsEv w' b g n0 n2 A gs.length c gs.length (List.replicate gs.length 0) ∧ Below w.heap.size w w' := by
  obtain ⟨i0, hi, hz0, hz1, hz2⟩ := info_parts info3
  have hmk := fun (W : World) => run_make (P := Try.prog) W 33 3 i0 (.int .i64 0) Try.underlying33 hi hz0 .i64 .i64 (gs.length : Int) (gs.length : Int) (by omega) (by omega) (by rw [hz2]; omega) (by omega)
  simp only [Int.toNat_natCast, hz1, ivals_made] at hmk
  clear hr hi hz0 hz1 hz2
  have hu24 := Try.underlying24
  have hu69 := Try.underlying69
  go_enter Try.func34, Try.ntmps34
  go_wp2_with fail
  go_region
  go_wp2
  go_ret
  refine ⟨_, _, rfl, by omega, Nat.le_succ _, ⟨?_, ?_, by omega⟩, ?_⟩
  · have h := heap_alloc_new ((w.alloc (.cells #[.int .i64 n0, .slice A gs.length c, .int .i64 n2] 24)).alloc (.cells (ivals (List.replicate gs.length 0)) 3)) (.cells #[.int .i64 n0, .slice A gs.length c, .int .i64 n2, .slice (some ⟨w.heap.size + 1, 0, none⟩) gs.length gs.length] 69)
    simp only [World.size_alloc] at h
    rw [List.length_replicate]
    exact blk_drew h
  · have h := heap_alloc_new (w.alloc (.cells #[.int .i64 n0, .slice A gs.length c, .int .i64 n2] 24)) (.cells (ivals (List.replicate gs.length 0)) 3)
    simp only [World.size_alloc] at h
    exact blk_drew (blk_alloc h _)
  · exact below_drew1 (below_alloc (below_alloc (below_alloc (Below.refl _ _) _) _) _)

theorem ivals_cell {w : World} {g : Nat} {l : List Int} (h : w.heap[g]? = some (.cells (ivals l) 3 (0, 0))) (i : Nat) (hi : i < l.length) : w.cell? ⟨g, i, none⟩ = some (.int .i64 (l.getD i 0)) := (blk_cell h i).trans (ivals_get l i hi)
theorem ivals_put {w : World} {g : Nat} {l : List Int} (h : w.heap[g]? = some (.cells (ivals l) 3 (0, 0))) (i : Nat) (v : Int) : (w.setCell ⟨g, i, none⟩ (.int .i64 v)).heap[g]? = some (.cells (ivals (l.set i v)) 3 (0, 0)) := blk_put h i _ (ivals_set l i v)
/-- The values behind a gate's kids. -/
def kidsG (strong : Int) (i : Nat) : List Int → List Int → Option (List Int)
  | [], vs => some vs
  | k :: ks, vs => if 0 ≤ k ∧ k < (vs.length : Int) then (if vs.getD k.toNat 0 = strong then some (vs.set i strong) else kidsG strong i ks (if vs.getD k.toNat 0 = 2 then vs.set i 2 else vs)) else none
def notG (v : Int) : Int := if v = 2 then 2 else wrap64 (1 - v)
def strongG (op : Int) : Int := if op = 6 then 1 else 0
/-- The values behind a gate. -/
def stepG (g : S52) (i : Nat) (bits vs : List Int) : Option (List Int) :=
  if i < vs.length then
    if g.f0 = 1 then some (vs.set i 0)
    else if g.f0 = 2 then some (vs.set i 1)
    else if g.f0 = 3 then (if 0 ≤ g.f1 ∧ g.f1 < (bits.length : Int) then some (vs.set i (rd bits g.f1)) else none)
    else if g.f0 = 4 then (if 0 < g.f2.length ∧ 0 ≤ rd g.f2 0 ∧ rd g.f2 0 < (vs.length : Int) then some (vs.set i (notG (rd vs (rd g.f2 0)))) else none)
    else kidsG (strongG g.f0) i g.f2 (vs.set i (1 - strongG g.f0))
  else none
def outG (bits : List Int) : List S52 → Nat → List Int → Option (List Int)
  | [], _, vs => some vs
  | g :: gs, i, vs => (stepG g i bits vs).bind (outG bits gs (i + 1))
theorem kidsG_length {s : Int} {i : Nat} : ∀ {ks vs r : List Int}, kidsG s i ks vs = some r → r.length = vs.length
  | [], vs, r, h => by rw [← Option.some.inj h]
  | k :: ks, vs, r, h => by
    rw [kidsG] at h
    split at h
    · split at h
      · rw [← Option.some.inj h]; simp
      · have := kidsG_length h
        split at this <;> simpa using this
    · cases h
theorem stepG_length {g : S52} {i : Nat} {bits vs r : List Int} (h : stepG g i bits vs = some r) : r.length = vs.length := by
  unfold stepG at h
  repeat' split at h
  all_goals first | (rw [← Option.some.inj h]; simp; done) | (have := kidsG_length h; simpa using this) | cases h
/-- The whole output: the values, and the root's. -/
def outF (gs : List S52) (root : Int) (bits vs : List Int) : Option (List Int × Int) := (outG bits gs 0 vs).bind fun v => if 0 ≤ root ∧ root < (v.length : Int) then some (v, rd v root) else none
theorem drop_rd52 {l : List S52} {k : Nat} (hk : k < l.length) : l.drop k = rd_T52 l k :: l.drop (k + 1) := by
  have e : rd_T52 l k = l[k] := by unfold rd_T52; rw [Int.toNat_natCast, List.getD_eq_getElem?_getD, List.getElem?_eq_getElem hk]; rfl
  rw [e]
  exact List.drop_eq_getElem_cons hk
theorem drop_rdI {l : List Int} {k : Nat} (hk : k < l.length) : l.drop k = rd l k :: l.drop (k + 1) := by
  have e : rd l k = l[k] := by unfold rd; rw [Int.toNat_natCast, List.getD_eq_getElem?_getD, List.getElem?_eq_getElem hk]; rfl
  rw [e]
  exact List.drop_eq_getElem_cons hk
/-- Gate i, its kids. -/
theorem at_gate {W : World} {ok : Nat → Prop} {A : Option Addr} {gs : List S52} (h : Kd.F k52 W ok A gs.length gs) (i : Nat) (hi : i < gs.length) :
    ∃ ad A2 c2, A = some ad ∧ W.cell? (ad.add (i * 3)) = some (.int .i64 (rd_T52 gs i).f0) ∧ W.cell? ⟨(ad.add (i * 3)).block, (ad.add (i * 3)).off + 1, none⟩ = some (.int .i64 (rd_T52 gs i).f1) ∧ W.cell? ⟨(ad.add (i * 3)).block, (ad.add (i * 3)).off + 2, none⟩ = some (.slice A2 (rd_T52 gs i).f2.length c2) ∧
      Kd.F (Kd.int .i64) W ok A2 (rd_T52 gs i).f2.length (rd_T52 gs i).f2 := by
  obtain ⟨ad, cs, e, _, hK, hc0, _⟩ := Kd.F_get h z52 (i : Int) (by omega) (by omega)
  obtain ⟨A2, c2, rfl, l2, g2⟩ := k52_openF hK
  have hc : ∀ j u, [Value.int .i64 (rd_T52 gs i).f0, .int .i64 (rd_T52 gs i).f1, .slice A2 (rd_T52 gs i).f2.length c2][j]? = some u → W.cell? (ad.add ((i : Int).toNat * 3 + j)) = some u := hc0
  simp only [Int.toNat_natCast] at hc
  exact ⟨ad, A2, c2, e, hc 0 _ rfl, by rw [← add_field _ _ 1 (by omega)]; exact hc 1 _ rfl, by rw [← add_field _ _ 2 (by omega)]; exact hc 2 _ rfl, g2⟩
theorem IsEv.alloc {w : World} {e g : Nat} {n0 n2 : Int} {A : Option Addr} {n c m : Nat} {vs : List Int} (h : IsEv w e g n0 n2 A n c m vs) (o : Obj) : IsEv (w.alloc o) e g n0 n2 A n c m vs := ⟨blk_alloc h.he o, blk_alloc h.hg o, h.ne⟩
theorem IsEv.put {w : World} {e g : Nat} {n0 n2 : Int} {A : Option Addr} {n c m : Nat} {vs : List Int} (h : IsEv w e g n0 n2 A n c m vs) (i : Nat) (v : Int) : IsEv (w.setCell ⟨g, i, none⟩ (.int .i64 v)) e g n0 n2 A n c m (vs.set i v) :=
  ⟨by rw [List.length_set]; exact blk_far h.he h.ne _, ivals_put h.hg i v, h.ne⟩
theorem IsEv.drew {w : World} {e g : Nat} {n0 n2 : Int} {A : Option Addr} {n c m : Nat} {vs : List Int} (h : IsEv w e g n0 n2 A n c m vs) : IsEv w.drew e g n0 n2 A n c m vs := ⟨blk_drew h.he, blk_drew h.hg, h.ne⟩
theorem IsEv.row {w : World} {e g : Nat} {n0 n2 : Int} {A : Option Addr} {n c m : Nat} {vs : List Int} (h : IsEv w e g n0 n2 A n c m vs) : w.cell? ⟨e, 3, none⟩ = some (.slice (some ⟨g, 0, none⟩) vs.length m) := (blk_cell h.he 3).trans rfl
/-- All but block g lies as it lay, and what lies below N too. -/
structure KB (w W : World) (g N : Nat) : Prop where
  keep : KeepBut w W g none
  bel : Below N w W
  le : N ≤ g
  lt : g < w.heap.size
theorem KB.refl {w : World} {g N : Nat} (h : N ≤ g) (h2 : g < w.heap.size) : KB w w g N := ⟨KeepBut.refl _ _ _, Below.refl _ _, h, h2⟩
theorem KB.alloc {w W : World} {g N : Nat} (h : KB w W g N) (o : Obj) : KB w (W.alloc o) g N := ⟨keep_alloc h.keep o, h.bel.alloc (by have := h.keep.1; have := h.le; have := h.lt; omega) o, h.le, h.lt⟩
theorem KB.put {w W : World} {g N : Nat} (h : KB w W g N) (i : Nat) (v : Value) : KB w (W.setCell ⟨g, i, none⟩ v) g N := ⟨h.keep.set_ i v, h.bel.setCell (p := ⟨g, i, none⟩) h.le v, h.le, h.lt⟩
theorem KB.drew {w W : World} {g N : Nat} (h : KB w W g N) : KB w W.drew g N := ⟨keep_drew h.keep, h.bel.drew, h.le, h.lt⟩
set_option maxHeartbeats 16000000 in
set_option maxRecDepth 100000 in
theorem output_any (b g N : Nat) (hN : N ≤ g) (n0 n2 : Int) (A : Option Addr) (c m : Nat) (gs : List S52) (Ab : Option Addr) (cb : Nat) (bits vs vs' : List Int) (r : Int) (w : World) (hE : IsEv w b g n0 n2 A gs.length c m vs)
    (hG : Kd.F k52 w (fun k => k ≠ g) A gs.length gs) (hB : Kd.F (Kd.int .i64) w (fun k => k ≠ g) Ab bits.length bits) (hlen : vs.length < 4398046511104) (h : outF gs n2 bits vs = some (vs', r)) :
    Calls Try.prog 35 #[.pointer (some ⟨b, 0, none⟩), .slice Ab bits.length cb] w fun e w' => e = .returned (.int .i64 r) ∧ IsEv w' b g n0 n2 A gs.length c m vs' ∧ KB w w' g N := by
  obtain ⟨vf, hv, h2⟩ := Option.bind_eq_some_iff.1 h
  clear h
  have hu52 := Try.underlying52
  have hu24 := Try.underlying24
  have hu69 := Try.underlying69
  have hgl : gs.length ≤ 9223372036854775807 := Kd.F_max hG
  have HG := Aside0.mk hG
  have HBt := Aside0.mk hB
  have he1 : w.cell? ⟨b, 1, none⟩ = some (.slice A gs.length c) := (blk_cell hE.he 1).trans rfl
  have HE := Aside0.mk hE
  have H2 := Aside0.mk h2
  have HV := Aside0.mk hv
  have HL := Aside0.mk hlen
  clear hG hB hE h2 hv hlen
  go_enter Try.func35, Try.ntmps35
  go_wp2_with fail
  go_step3
  go_step
  go_step3
  go_wp2_with fail
  go_loopw [16] (fun i wr => ∃ (k : Nat) (vs1 : List Int), k ≤ gs.length ∧ i = .int .i64 k ∧ Aside0 (IsEv wr b g n0 n2 A gs.length c m vs1) ∧ Aside0 (KB w wr g N) ∧ Aside0 (vs1.length = vs.length) ∧ Aside0 (outG bits (gs.drop k) k vs1 = some vf)) (fun i _ => gs.length - (intOf i).toNat)
  case atStart => exact ⟨0, vs, Nat.zero_le _, rfl, HE, ⟨KB.refl hN (blk_lt HE.out.hg)⟩, ⟨rfl⟩, HV⟩
  case round =>
    clear he1
    obtain ⟨k, vs1, hk, rfl, HE1, HK, HL1, HV1⟩ := hrel
    by_cases hlt : k < gs.length
    · obtain ⟨vs2, hs, hrest⟩ : ∃ vs2, stepG (rd_T52 gs k) k bits vs1 = some vs2 ∧ outG bits (gs.drop (k + 1)) (k + 1) vs2 = some vf := by
        have := HV1.out
        rw [drop_rd52 hlt] at this
        exact Option.bind_eq_some_iff.1 this
      clear HV1
      have HR := Aside0.mk hrest
      have HS := Aside0.mk hs
      clear hrest hs
      obtain ⟨ad, A2, c2, rfl, hx0, hx1, hx2, hF2⟩ := at_gate (Kd.F_keep HG.out HK.out.keep (fun _ h => h)) k hlt
      have HF2 := Aside0.mk hF2
      clear hF2
      go_upto_region 4 with (fail)
      have hE1 := HE1.out.alloc (.cells #[.int .i64 (rd_T52 gs k).f0, .int .i64 (rd_T52 gs k).f1, .slice A2 (rd_T52 gs k).f2.length c2] 52)
      have hK1 := HK.out.alloc (.cells #[.int .i64 (rd_T52 gs k).f0, .int .i64 (rd_T52 gs k).f1, .slice A2 (rd_T52 gs k).f2.length c2] 52)
      have hX1 := heap_alloc_new wr (.cells #[.int .i64 (rd_T52 gs k).f0, .int .i64 (rd_T52 gs k).f1, .slice A2 (rd_T52 gs k).f2.length c2] 52)
      have hF1 := Kd.F_alloc HF2.out (.cells #[.int .i64 (rd_T52 gs k).f0, .int .i64 (rd_T52 gs k).f1, .slice A2 (rd_T52 gs k).f2.length c2] 52)
      have hB1 := Kd.F_alloc (Kd.F_keep HBt.out HK.out.keep (fun _ h => h)) (.cells #[.int .i64 (rd_T52 gs k).f0, .int .i64 (rd_T52 gs k).f1, .slice A2 (rd_T52 gs k).f2.length c2] 52)
      have hgb : wr.heap.size ≠ g := by have := blk_lt HE1.out.hg; omega
      have hgb2 : wr.heap.size ≠ b := by have := blk_lt HE1.out.he; omega
      generalize wr.alloc (.cells #[.int .i64 (rd_T52 gs k).f0, .int .i64 (rd_T52 gs k).f1, .slice A2 (rd_T52 gs k).f2.length c2] 52) = W1 at hE1 hK1 hX1 hF1 hB1 ⊢
      generalize wr.heap.size = gb at hX1 hgb hgb2 ⊢
      clear hx0 hx1 hx2 HF2 HE1 HK
      have HE1 := Aside0.mk hE1
      have HK1 := Aside0.mk hK1
      have HX1 := Aside0.mk hX1
      have HF1 := Aside0.mk hF1
      have HB1 := Aside0.mk hB1
      have y0 : W1.cell? ⟨gb, 0, none⟩ = some (.int .i64 (rd_T52 gs k).f0) := (blk_cell hX1 0).trans rfl
      have y1 : W1.cell? ⟨gb, 1, none⟩ = some (.int .i64 (rd_T52 gs k).f1) := (blk_cell hX1 1).trans rfl
      have y2 : W1.cell? ⟨gb, 2, none⟩ = some (.slice A2 (rd_T52 gs k).f2.length c2) := (blk_cell hX1 2).trans rfl
      have y3 := hE1.row
      clear hE1 hK1 hX1 hF1 hB1
      have hkv : k < vs1.length := by
        have := HS.out
        unfold stepG at this
        by_cases h : k < vs1.length
        · exact h
        · rw [if_neg h] at this; cases this
      have y4 := ivals_cell HE1.out.hg k hkv
      have y5 := blk_frozen HE1.out.hg k
      have hkv' : (k : Int) < (vs1.length : Int) := by omega
      have hkv0 : (0 : Int) ≤ (k : Int) := by omega
      have HS1 : Aside0 ((if (rd_T52 gs k).f0 = 1 then some (vs1.set k 0)
    else if (rd_T52 gs k).f0 = 2 then some (vs1.set k 1)
    else if (rd_T52 gs k).f0 = 3 then (if 0 ≤ (rd_T52 gs k).f1 ∧ (rd_T52 gs k).f1 < (bits.length : Int) then some (vs1.set k (rd bits (rd_T52 gs k).f1)) else none)
    else if (rd_T52 gs k).f0 = 4 then (if 0 < (rd_T52 gs k).f2.length ∧ 0 ≤ rd (rd_T52 gs k).f2 0 ∧ rd (rd_T52 gs k).f2 0 < (vs1.length : Int) then some (vs1.set k (notG (rd vs1 (rd (rd_T52 gs k).f2 0)))) else none)
    else kidsG (strongG (rd_T52 gs k).f0) k (rd_T52 gs k).f2 (vs1.set k (1 - strongG (rd_T52 gs k).f0))) = some vs2) := ⟨by
        have := HS.out
        unfold stepG at this
        rwa [if_pos hkv] at this⟩
      clear HS
      by_cases o1 : (rd_T52 gs k).f0 = 1
      · have e := HS1.out
        rw [if_pos o1] at e
        obtain rfl := Option.some.inj e
        clear e HS1
        rw [o1] at y0
        go_wp2
        go_roundw
        case rel => exact ⟨k + 1, _, by omega, by go_num, ⟨HE1.out.put k 0⟩, ⟨HK1.out.put k _⟩, ⟨by rw [List.length_set]; exact HL1.out⟩, HR⟩
        case measure => simp [intOf]; omega
      · by_cases o2 : (rd_T52 gs k).f0 = 2
        · have e := HS1.out
          rw [if_neg o1, if_pos o2] at e
          obtain rfl := Option.some.inj e
          clear e HS1
          rw [o2] at y0
          go_wp2
          go_roundw
          case rel => exact ⟨k + 1, _, by omega, by go_num, ⟨HE1.out.put k 1⟩, ⟨HK1.out.put k _⟩, ⟨by rw [List.length_set]; exact HL1.out⟩, HR⟩
          case measure => simp [intOf]; omega
        · by_cases o3 : (rd_T52 gs k).f0 = 3
          · have e := HS1.out
            rw [if_neg o1, if_neg o2, if_pos o3] at e
            by_cases hi : 0 ≤ (rd_T52 gs k).f1 ∧ (rd_T52 gs k).f1 < (bits.length : Int)
            case neg => rw [if_neg hi] at e; cases e
            rw [if_pos hi] at e
            obtain rfl := Option.some.inj e
            clear e HS1
            rw [o3] at y0
            obtain ⟨adb, rfl, hxb⟩ := Kd.at_int (Kd.F_now HB1.out) _ hi.1 hi.2
            obtain ⟨hi0, hi1⟩ := hi
            go_wp2_with fail
            go_region
            all_goals go_wp2
            all_goals go_roundw
            case rel => exact ⟨k + 1, _, by omega, by go_num, ⟨(HE1.out.put k _).drew⟩, ⟨(HK1.out.put k _).drew⟩, ⟨by rw [List.length_set]; exact HL1.out⟩, HR⟩
            case measure => simp [intOf]; omega
          · by_cases o4 : (rd_T52 gs k).f0 = 4
            · have e := HS1.out
              rw [if_neg o1, if_neg o2, if_neg o3, if_pos o4] at e
              by_cases hi : 0 < (rd_T52 gs k).f2.length ∧ 0 ≤ rd (rd_T52 gs k).f2 0 ∧ rd (rd_T52 gs k).f2 0 < (vs1.length : Int)
              case neg => rw [if_neg hi] at e; cases e
              rw [if_pos hi] at e
              obtain rfl := Option.some.inj e
              clear e HS1
              rw [o4] at y0
              obtain ⟨hl0, hi0, hi1⟩ := hi
              obtain ⟨adk, rfl, hxk⟩ := Kd.at_int (Kd.F_now HF1.out) 0 (by decide) (by omega)
              have hxk0 : W1.cell? adk = some (.int .i64 (rd (rd_T52 gs k).f2 0)) := by have := hxk; rwa [show ((0 : Int)).toNat = 0 from rfl, Addr.add_zero'] at this
              have hl0' : (0 : Int) < ((rd_T52 gs k).f2.length : Int) := by omega
              have y6 : W1.cell? ⟨g, (rd (rd_T52 gs k).f2 0).toNat, none⟩ = some (.int .i64 (rd vs1 (rd (rd_T52 gs k).f2 0))) := ivals_cell HE1.out.hg _ (by omega)
              generalize rd (rd_T52 gs k).f2 0 = q at hxk hxk0 hi0 hi1 y6 HR ⊢
              generalize rd vs1 q = v at y6 HR ⊢
              go_wp2_with fail
              go_region
              have hE2 := (HE1.out.put k v).drew
              have hK2 := (HK1.out.put k (.int .i64 v)).drew
              generalize (W1.setCell ⟨g, k, none⟩ (.int .i64 v)).drew = W2 at hE2 hK2 ⊢
              clear HE1 HK1 HX1 HF1 HB1 y0 y1 y2 y3 y4 y5 y6 hxk hxk0
              have z3 := hE2.row
              rw [List.length_set] at z3
              have z4 : W2.cell? ⟨g, k, none⟩ = some (.int .i64 v) := by
                have := ivals_cell hE2.hg k (by rw [List.length_set]; exact hkv)
                rw [this, List.getD_eq_getElem?_getD, List.getElem?_set_self hkv]
                rfl
              have z5 := blk_frozen hE2.hg k
              have HE2 := Aside0.mk hE2
              have HK2 := Aside0.mk hK2
              clear hE2 hK2
              by_cases hv2 : v = 2
              · subst hv2
                have en : notG 2 = 2 := rfl
                rw [en] at HR
                go_wp2
                go_roundw
                case rel => exact ⟨k + 1, _, by omega, by go_num, HE2, HK2, ⟨by rw [List.length_set]; exact HL1.out⟩, HR⟩
                case measure => simp [intOf]; omega
              · have en : notG v = wrap64 (1 - v) := by unfold notG; rw [if_neg hv2]
                rw [en] at HR
                go_wp2_with fail
                go_region
                all_goals go_wp2
                all_goals go_roundw
                case rel => exact ⟨k + 1, vs1.set k (wrap64 (1 - v)), by omega, by go_num, ⟨by have := (HE2.out.put k (wrap64 (1 - v))).drew; rwa [List.set_set] at this⟩, ⟨(HK2.out.put k _).drew⟩, ⟨by rw [List.length_set]; exact HL1.out⟩, HR⟩
                case measure => simp [intOf]; omega
            · have e := HS1.out
              rw [if_neg o1, if_neg o2, if_neg o3, if_neg o4] at e
              have HS2 := Aside0.mk e
              clear e HS1
              by_cases o6 : (rd_T52 gs k).f0 = 6
              · have es : strongG (rd_T52 gs k).f0 = 1 := by unfold strongG; rw [if_pos o6]
                have HS3 : Aside0 (kidsG 1 k (rd_T52 gs k).f2 (vs1.set k 0) = some vs2) := ⟨by have := HS2.out; rwa [es] at this⟩
                clear HS2
                go_upto_region 9 with (fail)
                have hE2 := HE1.out.put k 0
                have hK2 := HK1.out.put k (.int .i64 0)
                have hX2 := blk_far HX1.out (p := ⟨g, k, none⟩) hgb (.int .i64 0)
                have hF2 := Kd.F_far HF1.out (p := ⟨g, k, none⟩) (fun _ h => h) (.int .i64 0)
                generalize W1.setCell ⟨g, k, none⟩ (.int .i64 0) = W2 at hE2 hK2 hX2 hF2 ⊢
                clear HE1 HK1 HX1 HF1 HB1 y0 y1 y2 y3 y4 y5
                have z2 : W2.cell? ⟨gb, 2, none⟩ = some (.slice A2 (rd_T52 gs k).f2.length c2) := (blk_cell hX2 2).trans rfl
                have HE2 := Aside0.mk hE2
                have HK2 := Aside0.mk hK2
                have HX2 := Aside0.mk hX2
                have HF2 := Aside0.mk hF2
                have HL2 : Aside0 ((vs1.set k 0).length = vs.length) := ⟨by rw [List.length_set]; exact HL1.out⟩
                clear hE2 hK2 hX2 hF2
                generalize vs1.set k 0 = vs3 at HS3 HE2 HL2
                have hkv3 : k < vs3.length := by have := HL2.out; have := HL1.out; omega
                clear hkv hkv' HL1
                go_wp2_with fail
                go_loopw [37] (fun j wr2 => ∃ (q : Nat) (vsq : List Int), q ≤ (rd_T52 gs k).f2.length ∧ j = .int .i64 q ∧ Aside0 (IsEv wr2 b g n0 n2 (some ad) gs.length c m vsq) ∧ Aside0 (KB w wr2 g N) ∧ Aside0 (Kd.F (Kd.int .i64) wr2 (fun k => k ≠ g) A2 (rd_T52 gs k).f2.length (rd_T52 gs k).f2) ∧ Aside0 (vsq.length = vs.length) ∧ Aside0 (kidsG 1 k ((rd_T52 gs k).f2.drop q) vsq = some vs2)) (fun j _ => (rd_T52 gs k).f2.length - (intOf j).toNat)
                case atStart => exact ⟨0, vs3, Nat.zero_le _, rfl, HE2, HK2, HF2, HL2, HS3⟩
                case round =>
                  obtain ⟨q, vsq, hq, rfl, HE3, HK3, HF3, HL3, HS4⟩ := hrel
                  have hkl : (rd_T52 gs k).f2.length ≤ 9223372036854775807 := Kd.F_max HF3.out
                  by_cases hqt : q < (rd_T52 gs k).f2.length
                  · obtain ⟨adk, rfl, hxk⟩ := Kd.at_int (Kd.F_now HF3.out) (q : Int) (by omega) (by omega)
                    simp only [Int.toNat_natCast] at hxk
                    have e := HS4.out
                    rw [drop_rdI hqt, kidsG] at e
                    have hq0 : (q : Int) < ((rd_T52 gs k).f2.length : Int) := by omega
                    generalize rd (rd_T52 gs k).f2 q = kk at hxk e ⊢
                    by_cases hi : 0 ≤ kk ∧ kk < (vsq.length : Int)
                    case neg => rw [if_neg hi] at e; cases e
                    rw [if_pos hi] at e
                    obtain ⟨hi0, hi1⟩ := hi
                    have y3 := HE3.out.row
                    have y6 : wr.cell? ⟨g, kk.toNat, none⟩ = some (.int .i64 (vsq.getD kk.toNat 0)) := ivals_cell HE3.out.hg _ (by omega)
                    generalize vsq.getD kk.toNat 0 = v at y6 e ⊢
                    have hkq : k < vsq.length := by have := HL3.out; have := HL2.out; omega
                    have hkq' : (k : Int) < (vsq.length : Int) := by omega
                    have y4 := ivals_cell HE3.out.hg k hkq
                    have y5 := blk_frozen HE3.out.hg k
                    by_cases hvs : v = 1
                    · rw [if_pos hvs] at e
                      obtain rfl := Option.some.inj e
                      clear e HS4
                      subst hvs
                      go_wp2
                      go_roundw
                      case rel => exact ⟨k + 1, _, by omega, by go_num, ⟨HE3.out.put k _⟩, ⟨HK3.out.put k _⟩, ⟨by rw [List.length_set]; exact HL3.out⟩, HR⟩
                      case measure => simp [intOf]; omega
                    · rw [if_neg hvs] at e
                      by_cases hv2 : v = 2
                      · rw [if_pos hv2] at e
                        have HS5 := Aside0.mk e
                        clear e HS4
                        subst hv2
                        go_wp2
                        go_roundw
                        case rel => exact ⟨q + 1, _, by omega, by go_num, ⟨HE3.out.put k 2⟩, ⟨HK3.out.put k _⟩, ⟨Kd.F_far HF3.out (p := ⟨g, k, none⟩) (fun _ h => h) _⟩, ⟨by rw [List.length_set]; exact HL3.out⟩, HS5⟩
                        case measure => simp [intOf]; omega
                      · rw [if_neg hv2] at e
                        have HS5 := Aside0.mk e
                        clear e HS4
                        go_wp2
                        go_roundw
                        case rel => exact ⟨q + 1, _, by omega, by go_num, HE3, HK3, HF3, HL3, HS5⟩
                        case measure => simp [intOf]; omega
                  · obtain rfl : q = (rd_T52 gs k).f2.length := by omega
                    have e := HS4.out
                    rw [List.drop_length] at e
                    obtain rfl := Option.some.inj e
                    clear e HS4
                    go_wp2
                    go_roundw
                    case rel => exact ⟨k + 1, _, by omega, by go_num, HE3, HK3, HL3, HR⟩
                    case measure => simp [intOf]; omega
              · have es : strongG (rd_T52 gs k).f0 = 0 := by unfold strongG; rw [if_neg o6]
                have HS3 : Aside0 (kidsG 0 k (rd_T52 gs k).f2 (vs1.set k 1) = some vs2) := ⟨by have := HS2.out; rwa [es] at this⟩
                clear HS2
                go_upto_region 9 with (fail)
                have hE2 := HE1.out.put k 1
                have hK2 := HK1.out.put k (.int .i64 1)
                have hX2 := blk_far HX1.out (p := ⟨g, k, none⟩) hgb (.int .i64 1)
                have hF2 := Kd.F_far HF1.out (p := ⟨g, k, none⟩) (fun _ h => h) (.int .i64 1)
                generalize W1.setCell ⟨g, k, none⟩ (.int .i64 1) = W2 at hE2 hK2 hX2 hF2 ⊢
                clear HE1 HK1 HX1 HF1 HB1 y0 y1 y2 y3 y4 y5
                have z2 : W2.cell? ⟨gb, 2, none⟩ = some (.slice A2 (rd_T52 gs k).f2.length c2) := (blk_cell hX2 2).trans rfl
                have HE2 := Aside0.mk hE2
                have HK2 := Aside0.mk hK2
                have HX2 := Aside0.mk hX2
                have HF2 := Aside0.mk hF2
                have HL2 : Aside0 ((vs1.set k 1).length = vs.length) := ⟨by rw [List.length_set]; exact HL1.out⟩
                clear hE2 hK2 hX2 hF2
                generalize vs1.set k 1 = vs3 at HS3 HE2 HL2
                have hkv3 : k < vs3.length := by have := HL2.out; have := HL1.out; omega
                clear hkv hkv' HL1
                go_wp2_with fail
                go_loopw [37] (fun j wr2 => ∃ (q : Nat) (vsq : List Int), q ≤ (rd_T52 gs k).f2.length ∧ j = .int .i64 q ∧ Aside0 (IsEv wr2 b g n0 n2 (some ad) gs.length c m vsq) ∧ Aside0 (KB w wr2 g N) ∧ Aside0 (Kd.F (Kd.int .i64) wr2 (fun k => k ≠ g) A2 (rd_T52 gs k).f2.length (rd_T52 gs k).f2) ∧ Aside0 (vsq.length = vs.length) ∧ Aside0 (kidsG 0 k ((rd_T52 gs k).f2.drop q) vsq = some vs2)) (fun j _ => (rd_T52 gs k).f2.length - (intOf j).toNat)
                case atStart => exact ⟨0, vs3, Nat.zero_le _, rfl, HE2, HK2, HF2, HL2, HS3⟩
                case round =>
                  obtain ⟨q, vsq, hq, rfl, HE3, HK3, HF3, HL3, HS4⟩ := hrel
                  have hkl : (rd_T52 gs k).f2.length ≤ 9223372036854775807 := Kd.F_max HF3.out
                  by_cases hqt : q < (rd_T52 gs k).f2.length
                  · obtain ⟨adk, rfl, hxk⟩ := Kd.at_int (Kd.F_now HF3.out) (q : Int) (by omega) (by omega)
                    simp only [Int.toNat_natCast] at hxk
                    have e := HS4.out
                    rw [drop_rdI hqt, kidsG] at e
                    have hq0 : (q : Int) < ((rd_T52 gs k).f2.length : Int) := by omega
                    generalize rd (rd_T52 gs k).f2 q = kk at hxk e ⊢
                    by_cases hi : 0 ≤ kk ∧ kk < (vsq.length : Int)
                    case neg => rw [if_neg hi] at e; cases e
                    rw [if_pos hi] at e
                    obtain ⟨hi0, hi1⟩ := hi
                    have y3 := HE3.out.row
                    have y6 : wr.cell? ⟨g, kk.toNat, none⟩ = some (.int .i64 (vsq.getD kk.toNat 0)) := ivals_cell HE3.out.hg _ (by omega)
                    generalize vsq.getD kk.toNat 0 = v at y6 e ⊢
                    have hkq : k < vsq.length := by have := HL3.out; have := HL2.out; omega
                    have hkq' : (k : Int) < (vsq.length : Int) := by omega
                    have y4 := ivals_cell HE3.out.hg k hkq
                    have y5 := blk_frozen HE3.out.hg k
                    by_cases hvs : v = 0
                    · rw [if_pos hvs] at e
                      obtain rfl := Option.some.inj e
                      clear e HS4
                      subst hvs
                      go_wp2
                      go_roundw
                      case rel => exact ⟨k + 1, _, by omega, by go_num, ⟨HE3.out.put k _⟩, ⟨HK3.out.put k _⟩, ⟨by rw [List.length_set]; exact HL3.out⟩, HR⟩
                      case measure => simp [intOf]; omega
                    · rw [if_neg hvs] at e
                      by_cases hv2 : v = 2
                      · rw [if_pos hv2] at e
                        have HS5 := Aside0.mk e
                        clear e HS4
                        subst hv2
                        go_wp2
                        go_roundw
                        case rel => exact ⟨q + 1, _, by omega, by go_num, ⟨HE3.out.put k 2⟩, ⟨HK3.out.put k _⟩, ⟨Kd.F_far HF3.out (p := ⟨g, k, none⟩) (fun _ h => h) _⟩, ⟨by rw [List.length_set]; exact HL3.out⟩, HS5⟩
                        case measure => simp [intOf]; omega
                      · rw [if_neg hv2] at e
                        have HS5 := Aside0.mk e
                        clear e HS4
                        go_wp2
                        go_roundw
                        case rel => exact ⟨q + 1, _, by omega, by go_num, HE3, HK3, HF3, HL3, HS5⟩
                        case measure => simp [intOf]; omega
                  · obtain rfl : q = (rd_T52 gs k).f2.length := by omega
                    have e := HS4.out
                    rw [List.drop_length] at e
                    obtain rfl := Option.some.inj e
                    clear e HS4
                    go_wp2
                    go_roundw
                    case rel => exact ⟨k + 1, _, by omega, by go_num, HE3, HK3, HL3, HR⟩
                    case measure => simp [intOf]; omega
    · obtain rfl : k = gs.length := by omega
      have e := HV1.out
      rw [List.drop_length] at e
      obtain rfl := Option.some.inj e
      clear e HV1
      have e := H2.out
      by_cases hi : 0 ≤ n2 ∧ n2 < (vs1.length : Int)
      case neg => rw [if_neg hi] at e; cases e
      rw [if_pos hi] at e
      injection e with e
      injection e with e1 e2
      subst e1 e2
      obtain ⟨hi0, hi1⟩ := hi
      have y3 := HE1.out.row
      have y2 : wr.cell? ⟨b, 2, none⟩ = some (.int .i64 n2) := (blk_cell HE1.out.he 2).trans rfl
      have y4 : wr.cell? ⟨g, n2.toNat, none⟩ = some (.int .i64 (rd vs1 n2)) := ivals_cell HE1.out.hg n2.toNat (by omega)
      go_wp2_with fail
      go_region
      all_goals go_wp2
      all_goals rw [Exit.noGoto_ret]
      all_goals go_ret
      all_goals exact ⟨rfl, ⟨blk_drew HE1.out.he, blk_drew HE1.out.hg, HE1.out.ne⟩, HK.out.drew⟩
theorem heap52 : Kd.Heap k52 := Kd.heap_iso _ (Kd.heap_pair (Kd.heap_int _) (Kd.heap_pair (Kd.heap_int _) (Kd.heap_slice 3 (Kd.heap_int _))))
def sat_Three.f (k : Nat) (a0_0 : Int) (l0_1 : List (S52)) (a0_2 : Int) (l1 : List Int) : Option (Int × Int) :=
  (sat_partial.f k a0_0 l0_1 a0_2 l1).bind fun t => if t = true then (if l0_1.length ≤ 1000000 then (outF l0_1 a0_2 l1 (List.replicate l0_1.length 0)).bind fun r => some (r.2, 0) else none) else some (0, 1)
theorem sat_Three.mono (a0_0 : Int) (l0_1 : List (S52)) (a0_2 : Int) (l1 : List Int) (k : Nat) : LeO (sat_Three.f k a0_0 l0_1 a0_2 l1) (sat_Three.f (k + 1) a0_0 l0_1 a0_2 l1) :=
  LeO.bind (sat_partial.mono _ _ _ _ _) (fun t => LeO.refl _)
/-- What came in lies apart from what is new. -/
theorem F_came {α : Type} {d : Kd α} {w W : World} {A : Option Addr} {n : Nat} {xs : List α} {g : Nat} (h : Kd.F d w (fun k => k < w.heap.size) A n xs) (hb : Below w.heap.size w W) (hg : w.heap.size ≤ g) : Kd.F d W (fun k => k ≠ g) A n xs :=
  Kd.F_mono (Kd.F_below h hb) (fun k hk => by omega)
set_option maxHeartbeats 8000000 in
set_option maxRecDepth 100000 in
theorem sat_Three.calls (k : Nat) (a0_0 : Int) (A0_1 : Option Addr) (c0_1 : Nat) (l0_1 : List (S52)) (a0_2 : Int) (A1 : Option Addr) (c1 : Nat) (l1 : List Int) (r1 : Int) (r2 : Int) (w : World) (hr0_1 : Kd.C k52 w A0_1 l0_1.length l0_1) (hc0_1 : l0_1.length ≤ c0_1) (hr1 : Kd.C (Kd.int .i64) w A1 l1.length l1) (hc1 : l1.length ≤ c1) (h : sat_Three.f k a0_0 l0_1 a0_2 l1 = some (r1, r2)) :
    Calls Try.prog 19 #[.agg #[.int .i64 a0_0, .slice A0_1 l0_1.length c0_1, .int .i64 a0_2], .slice A1 l1.length c1] w fun e w' => e = .returned (.tuple #[.int .i64 r1, .int .i64 r2]) ∧ Below w.heap.size w w' := by
  obtain ⟨t, ht, h2⟩ := Option.bind_eq_some_iff.1 h
  clear h
  have hp := fun (W : World) (hW : Below w.heap.size w W) => sat_partial.calls k a0_0 A0_1 c0_1 l0_1 a0_2 A1 c1 l1 t W (Kd.C_below hr0_1 hW) hc0_1 (Kd.C_below hr1 hW) hc1 ht
  have hu24 := Try.underlying24
  clear ht
  cases t with
  | false =>
    rw [if_neg (by decide)] at h2
    injection h2 with h2
    injection h2 with e1 e2
    subst e1 e2
    clear hr0_1 hr1
    go_enter Try.func19, Try.ntmps19
    go_wp2_with (go_at_call 33; refine (hp _ (below_alloc (Below.refl _ _) _)).mono ?_; rintro e w1 ⟨rfl, hb1⟩; have HB1 := Aside0.mk hb1; clear hb1 hp)
    go_ret2
    exact ⟨rfl, (below_alloc (Below.refl _ _) _).trans (HB1.out.mono (by simp))⟩
  | true =>
    rw [if_pos rfl] at h2
    by_cases hl : l0_1.length ≤ 1000000
    case neg => rw [if_neg hl] at h2; cases h2
    rw [if_pos hl] at h2
    obtain ⟨⟨vs', r⟩, ho, h3⟩ := Option.bind_eq_some_iff.1 h2
    clear h2
    injection h3 with h3
    injection h3 with e1 e2
    have e1 : r = r1 := e1
    subst e1 e2
    have hn := fun (W : World) (hW : Below w.heap.size w W) => newEvaluator_any a0_0 A0_1 c0_1 l0_1 a0_2 W (Kd.C_below hr0_1 hW) hl
    have hG := Kd.C_F heap52 hr0_1
    have hB := Kd.C_F (Kd.heap_int _) hr1
    have hout := fun (b g : Nat) (W : World) (hW : Below w.heap.size w W) (hg : w.heap.size ≤ g) (hE : IsEv W b g a0_0 a0_2 A0_1 l0_1.length c0_1 l0_1.length (List.replicate l0_1.length 0)) =>
      output_any b g w.heap.size hg a0_0 a0_2 A0_1 c0_1 l0_1.length l0_1 A1 c1 l1 _ vs' r W hE (F_came hG hW hg) (F_came hB hW hg) (by rw [List.length_replicate]; omega) ho
    clear hr0_1 hr1 hG hB ho
    go_enter Try.func19, Try.ntmps19
    go_wp2_with (first | (go_at_call 33; refine (hp _ (below_alloc (Below.refl _ _) _)).mono ?_; rintro e w1 ⟨rfl, hb1⟩; have hz : w1.cell? ⟨w.heap.size, 0, none⟩ = some (.int .i64 a0_0) := (hb1.cell (p := ⟨w.heap.size, 0, none⟩) (by simp)).trans (World.cell?_alloc_at _ _ _ _ rfl); have hz1 : w1.cell? ⟨w.heap.size, 1, none⟩ = some (.slice A0_1 l0_1.length c0_1) := (hb1.cell (p := ⟨w.heap.size, 1, none⟩) (by simp)).trans (World.cell?_alloc_at _ _ _ _ rfl); have hz2 : w1.cell? ⟨w.heap.size, 2, none⟩ = some (.int .i64 a0_2) := (hb1.cell (p := ⟨w.heap.size, 2, none⟩) (by simp)).trans (World.cell?_alloc_at _ _ _ _ rfl); have HB1 := Aside0.mk ((below_alloc (Below.refl w.heap.size w) (.cells #[.int .i64 a0_0, .slice A0_1 l0_1.length c0_1, .int .i64 a0_2] 24)).trans (hb1.mono (by simp))); clear hb1) | (go_at_call 34; refine (hn _ HB1.out).mono ?_; rintro e w2 ⟨b, g, rfl, hb, hg, hE, hb2⟩; have HB2 := Aside0.mk (HB1.out.trans (hb2.mono HB1.out.size)); have HE := Aside0.mk hE; have Hg := Aside0.mk (Nat.le_trans HB1.out.size hg); clear hb2 hE hg hb) | (go_at_call 35; refine (hout b g _ HB2.out Hg.out HE.out).mono ?_; rintro e w3 ⟨rfl, hE3, hK3⟩; have HB3 := Aside0.mk hK3; clear hE3 hK3))
    go_ret2
    exact ⟨rfl, HB2.out.trans HB3.out.bel⟩

/-! ### sat_Eval: function 15 -/
def sat_Eval.l0 : Nat → List Int → List Bool → Int → Int → Int → List (S52) → Int → Option (Bool × Int)
  | 0, _, _, _, _, _, _, _ => none
  | k + 1, x6, x14, x15, x16, x116000, x116001, x116002 => if x16 < x15 then (if 0 ≤ x16 then (if x16 < (x14.length : Int) then (if rdOf false x14 x16 = true then (if x16 < (x6.length : Int) then (sat_Eval.l0 k (x6.set (x16 : Int).toNat 1) x14 x15 (wrap64 (x16 + 1)) x116000 x116001 x116002) else (none)) else (sat_Eval.l0 k x6 x14 x15 (wrap64 (x16 + 1)) x116000 x116001 x116002)) else (none)) else (none)) else ((sat_Three.f k x116000 x116001 x116002 x6).bind fun bt121 => (some ((bt121.1 == 1), bt121.2)))
def sat_Eval.f (k : Nat) (a0_0 : Int) (l0_1 : List (S52)) (a0_2 : Int) (l1 : List Bool) : Option (Bool × Int) := if 0 ≤ (l1.length : Int) then (if ((l1.length : Int) : Int).toNat ≤ 35184372088832 then (sat_Eval.l0 k (List.replicate ((l1.length : Int) : Int).toNat 0) l1 (l1.length : Int) 0 a0_0 l0_1 a0_2) else (none)) else (none)
theorem sat_Eval.mono_l : ∀ k, (∀ y0 y1 y2 y3 y4 y5 y6, LeO (sat_Eval.l0 k y0 y1 y2 y3 y4 y5 y6) (sat_Eval.l0 (k + 1) y0 y1 y2 y3 y4 y5 y6))
  | 0 => fun _ _ _ _ _ _ _ r h => by simp [sat_Eval.l0] at h
  | k + 1 => by
    have ih0 := sat_Eval.mono_l k
    · intro y0 y1 y2 y3 y4 y5 y6
      unfold sat_Eval.l0
      repeat' first
      | (with_reducible exact ih0 _ _ _ _ _ _ _)
      | (with_reducible exact sat_Three.mono _ _ _ _ _)
      | (with_reducible exact LeO.refl _)
      | (with_reducible exact LeO.none _)
      | (with_reducible refine LeO.ite ?_ ?_)
      | (with_reducible refine LeO.bind ?_ (fun _ => ?_))
      | exact ih0 _ _ _ _ _ _ _
      | exact sat_Three.mono _ _ _ _ _
      | exact LeO.none _
      | refine LeO.ite ?_ ?_
      | refine LeO.bind ?_ (fun _ => ?_)
theorem sat_Eval.mono : ∀ a0 a1 a2 a3 k, LeO (sat_Eval.f k a0 a1 a2 a3) (sat_Eval.f (k + 1) a0 a1 a2 a3) := by
  intro a0 a1 a2 a3 k
  have ih0 := sat_Eval.mono_l k
  unfold sat_Eval.f
  repeat' first
      | (with_reducible exact ih0 _ _ _ _ _ _ _)
      | (with_reducible exact sat_Three.mono _ _ _ _ _)
      | (with_reducible exact LeO.refl _)
      | (with_reducible exact LeO.none _)
      | (with_reducible refine LeO.ite ?_ ?_)
      | (with_reducible refine LeO.bind ?_ (fun _ => ?_))
      | exact ih0 _ _ _ _ _ _ _
      | exact sat_Three.mono _ _ _ _ _
      | exact LeO.none _
      | refine LeO.ite ?_ ?_
      | refine LeO.bind ?_ (fun _ => ?_)
set_option maxHeartbeats 8000000 in
set_option maxRecDepth 100000 in
theorem sat_Eval.calls (k : Nat) (a0_0 : Int) (A0_1 : Option Addr) (c0_1 : Nat) (l0_1 : List (S52)) (a0_2 : Int) (A1 : Option Addr) (c1 : Nat) (l1 : List Bool) (r1 : Bool) (r2 : Int) (w : World) (hr0_1 : Kd.C k52 w A0_1 l0_1.length l0_1) (hc0_1 : l0_1.length ≤ c0_1) (hr1 : Kd.C Kd.bool w A1 l1.length l1) (hc1 : l1.length ≤ c1) (h : sat_Eval.f k a0_0 l0_1 a0_2 l1 = some (r1, r2)) :
    Calls Try.prog 15 #[.agg #[.int .i64 a0_0, .slice A0_1 l0_1.length c0_1, .int .i64 a0_2], .slice A1 l1.length c1] w fun e w' => e = .returned (.tuple #[.bool r1, .int .i64 r2]) ∧ Below w.heap.size w w' := by
  have hu24 := Try.underlying24
  have HR0_1 := Aside0.mk hr0_1
  have HC0_1 := Aside0.mk hc0_1
  clear hr0_1 hc0_1
  have HR1 := Aside0.mk hr1
  have HC1 := Aside0.mk hc1
  clear hr1 hc1
  have HB := Aside0.mk (Below.refl w.heap.size w)
  have H : (if 0 ≤ (l1.length : Int) then (if ((l1.length : Int) : Int).toNat ≤ 35184372088832 then (sat_Eval.l0 k (List.replicate ((l1.length : Int) : Int).toNat 0) l1 (l1.length : Int) 0 a0_0 l0_1 a0_2) else (none)) else (none)) = some (r1, r2) := h
  clear h
  by_cases c3 : 0 ≤ (l1.length : Int)
  · rw [if_pos c3] at H
    have c3b0 := eq_true c3
    have c3b1 : decide (0 ≤ (l1.length : Int)) = true := decide_eq_true c3
    clear c3
    by_cases c4 : ((l1.length : Int) : Int).toNat ≤ 35184372088832
    · rw [if_pos c4] at H
      have c4b0 := eq_true c4
      have c4b1 : decide (((l1.length : Int) : Int).toNat ≤ 35184372088832) = true := decide_eq_true c4
      clear c4
      obtain ⟨y116, hy116⟩ : ∃ y_ : List Int, y_ = (List.replicate ((l1.length : Int) : Int).toNat 0) := ⟨_, rfl⟩
      replace H : (sat_Eval.l0 k y116 l1 (l1.length : Int) 0 a0_0 l0_1 a0_2) = some (r1, r2) := by first | (rw [hy116]; with_reducible exact H) | (have H2_ := (Option.bind_some _ _).symm.trans H; rw [hy116]; with_reducible exact H2_) | (have H2_ := (Option.bind_some _ _).symm.trans H; with_reducible exact H2_) | with_reducible exact H | (rw [hy116]; exact H) | exact H
      have Ny116 := Aside0.mk hy116
      clear hy116
      have H' := Aside0.mk H
      clear H
      go_enter Try.func15, Try.ntmps15
      go_wp2_with (first | ((with_reducible refine gate_dst (N := 2) rfl ?_); refine box_event ?hg (N := 2) ?hd (cs := #[.int .i64 a0_0, .slice A0_1 l0_1.length c0_1, .int .i64 a0_2]) (t := 24) ?hr ?_; (case hd => rfl); (case hg => rfl); (case hr => first | (go_simp; done) | (go_simp; rfl)); intro gb115 hg w5 hbox hb; have n0_ := Aside0.mk (below_step (by repeat (first | (with_reducible first | exact HB.out | apply below_alloc | apply pw_below_drewN | apply below_drew1) | exact HB.out)) hb); have n1_ := Aside0.mk (hbox); have n2_ := Aside0.mk ((by rw [hg]; exact (below_size (by repeat (first | (with_reducible first | exact HB.out | apply below_alloc | apply pw_below_drewN | apply below_drew1) | exact HB.out))) : w.heap.size ≤ gb115)); have n3_ := Aside0.mk ((by rw [hg]; exact (below_size (by repeat (first | (with_reducible first | exact HB.out | apply below_alloc | apply pw_below_drewN | apply below_drew1) | exact HB.out))) : w.heap.size ≤ gb115)); clear HB; have HB := n0_; have BK115 := n1_; have GW115 := n2_; have GE115 := n3_; clear n0_ n1_ n2_ n3_; clear hb hbox hg) | ((with_reducible refine gate_dst (N := 13) rfl ?_); refine Kd.R_make (Kd.int .i64) _ 3 rfl (N := 13) rfl 33 _ _ rfl (l1.length : Int) rfl rfl Try.underlying33 (.int .i64 0) 8 info3 rfl (by decide) (by omega) 0 (ok := fun _ => True) (okp := fun _ => True) rfl (fun _ hk => hk) trivial (of_decide_eq_true (by first | (with_reducible assumption) | assumption)) (Nat.le_trans (Nat.mul_le_mul_right _ (of_decide_eq_true (by first | (with_reducible assumption) | assumption) : (l1.length : Int).toNat ≤ 35184372088832)) (by omega)) (Below.refl _ _) (Nat.le_refl _) ?_; intro v117 w6 ho7 hb hg_ hnew_; clear hg_ hnew_; (first | rw [← Ny116.out] at ho7 | (simp only [Int.reduceToNat] at ho7; rw [← Ny116.out] at ho7)); have n0_ := Aside0.mk (Kd.R_lower ho7 (below_size (by repeat (first | (with_reducible first | exact HB.out | apply below_alloc | apply pw_below_drewN | apply below_drew1 | refine below_set ?_ GE115.out) | exact HB.out)))); have n1_ := Aside0.mk (blk_below (g := gb115) (o := .cells #[.int .i64 a0_0, .slice A0_1 l0_1.length c0_1, .int .i64 a0_2] 24 (0, 0)) (by (with_reducible repeat (first | refine blk_drewN ?_ _ | refine blk_drew ?_ | refine blk_alloc ?_ _)); exact BK115.out) hb); have n2_ := Aside0.mk (below_step (by repeat (first | (with_reducible first | exact HB.out | apply below_alloc | apply pw_below_drewN | apply below_drew1 | refine below_set ?_ GE115.out) | exact HB.out)) hb); clear BK115; clear HB; have HO118 := n0_; have BK115 := n1_; have HB := n2_; clear n0_ n1_ n2_; clear hb ho7))
      go_loopg [16] k (fun kq v16 w' => ∃ (x6_1 : List Int) (x16_1 : Int), v16 = .int .i64 x16_1 ∧ Aside0 (sat_Eval.l0 kq x6_1 l1 (l1.length : Int) x16_1 a0_0 l0_1 a0_2 = some (r1, r2)) ∧ Aside0 (kq ≤ k) ∧ Aside0 (Kd.R (Kd.int .i64) 3 w' w.heap.size (fun _ => True) v117 x6_1) ∧ Aside0 (w'.heap[gb115]? = some (.cells #[.int .i64 a0_0, (.slice A0_1 l0_1.length c0_1), .int .i64 a0_2] 24 (0, 0))) ∧ Aside0 (Below w.heap.size w w'))
      case atStart => exact ⟨(y116), (0), (by first | rfl | (simp; done) | (simp [*]; done)), H', ⟨Nat.le_refl _⟩, ⟨by (with_reducible repeat (first | apply Kd.R_alloc | apply Kd.R_drewN | apply Kd.R_drew)); exact HO118.out⟩, ⟨by (with_reducible repeat (first | refine blk_drewN ?_ _ | refine blk_drew ?_ | refine blk_alloc ?_ _)); exact BK115.out⟩, ⟨by repeat (first | (with_reducible first | exact HB.out | apply below_alloc | apply pw_below_drewN | apply below_drew1 | refine below_set ?_ GE115.out) | exact HB.out)⟩⟩
      case round =>
        clear H'
        try clear c1
        try clear p2
        try clear c3
        try clear c3b0
        try clear c3b1
        try clear c4
        try clear c4b0
        try clear c4b1
        obtain ⟨x6_1, x16_1, rfl, HA, HK1, HO_6, BK115, HB⟩ := hrel
        cases gk with
        | zero => exact absurd HA.out (by simp [sat_Eval.l0])
        | succ k1 =>
          have H := HA.out
          clear HA
          simp only [sat_Eval.l0] at H
          by_cases c8 : x16_1 < (l1.length : Int)
          · rw [if_pos c8] at H
            have c8b0 : decide (x16_1 < (l1.length : Int)) = true := decide_eq_true c8
            clear c8
            by_cases c9 : 0 ≤ x16_1
            · rw [if_pos c9] at H
              have c9b0 : decide (0 ≤ x16_1) = true := decide_eq_true c9
              clear c9
              by_cases c10 : x16_1 < (l1.length : Int)
              · rw [if_pos c10] at H
                have c10b0 : decide (x16_1 < (l1.length : Int)) = true := decide_eq_true c10
                clear c10
                obtain ⟨bq11, hbq11⟩ : ∃ b_ : Bool, b_ = (rdOf false l1 x16_1) := ⟨_, rfl⟩
                replace H : (if bq11 = true then (if x16_1 < (x6_1.length : Int) then (sat_Eval.l0 k1 (x6_1.set (x16_1 : Int).toNat 1) l1 (l1.length : Int) (wrap64 (x16_1 + 1)) a0_0 l0_1 a0_2) else (none)) else (sat_Eval.l0 k1 x6_1 l1 (l1.length : Int) (wrap64 (x16_1 + 1)) a0_0 l0_1 a0_2)) = some (r1, r2) := by rw [← hbq11] at H; exact H
                have Nbq11 := Aside0.mk hbq11
                clear hbq11
                by_cases c12 : bq11 = true
                · subst c12
                  have H1 : (if x16_1 < (x6_1.length : Int) then (sat_Eval.l0 k1 (x6_1.set (x16_1 : Int).toNat 1) l1 (l1.length : Int) (wrap64 (x16_1 + 1)) a0_0 l0_1 a0_2) else (none)) = some (r1, r2) := by rw [if_pos rfl] at H; exact H
                  clear H
                  have H := H1
                  clear H1
                  by_cases c13 : x16_1 < (x6_1.length : Int)
                  · rw [if_pos c13] at H
                    have c13b0 : decide (x16_1 < (x6_1.length : Int)) = true := decide_eq_true c13
                    clear c13
                    obtain ⟨y120, hy120⟩ : ∃ y_ : List Int, y_ = (x6_1.set (x16_1 : Int).toNat 1) := ⟨_, rfl⟩
                    replace H : (sat_Eval.l0 k1 y120 l1 (l1.length : Int) (wrap64 (x16_1 + 1)) a0_0 l0_1 a0_2) = some (r1, r2) := by first | (rw [hy120]; with_reducible exact H) | (have H2_ := (Option.bind_some _ _).symm.trans H; rw [hy120]; with_reducible exact H2_) | (have H2_ := (Option.bind_some _ _).symm.trans H; with_reducible exact H2_) | with_reducible exact H | (rw [hy120]; exact H) | exact H
                    have Ny120 := Aside0.mk hy120
                    clear hy120
                    have H' := Aside0.mk H
                    clear H
                    have p119 : 0 ≤ (x16_1 : Int) := of_decide_eq_true (by first | (with_reducible assumption) | assumption)
                    have q119 : x16_1 < (l1.length : Int) := of_decide_eq_true (by first | (with_reducible assumption) | assumption)
                    obtain ⟨ad119, e119, hx119_0⟩ := Kd.at_bool HR1.out x16_1 p119 q119
                    (try rw [← Nbq11.out] at hx119_0)
                    cases e119
                    replace hx119_0 := (HB.out.cell (World.block_lt_of_cell? w _ hx119_0)).trans hx119_0
                    replace p119 := eq_true p119
                    replace q119 := eq_true q119
                    have p14 : 0 ≤ (x16_1 : Int) := of_decide_eq_true (by first | (with_reducible assumption) | assumption)
                    have q14 : (x16_1 : Int) < ((x6_1.length : Int) : Int) := of_decide_eq_true (by first | (with_reducible assumption) | assumption)
                    obtain ⟨go14, co14, eo14, gb14, gl14, cl14, HG14⟩ := Kd.R_form HO_6.out (by omega)
                    (first | cases eo14 | (injection eo14 with ea_ en_ ec_; (first | subst ea_ | (injection ea_ with ea_; subst ea_)); subst ec_; clear en_))
                    have GB14 := Aside0.mk gb14
                    have GG14 := Aside0.mk HG14
                    clear gb14 gl14 HG14
                    obtain ⟨hx14_0, hf14_0⟩ := Kd.R_celln 0 HO_6.out (x16_1 : Int) p14 q14
                    replace p14 := eq_true p14
                    replace q14 := eq_true q14
                    have HP15 := Kd.R_putg HO_6.out (x16_1 : Int) 1
                    go_wp2_with (first | ((with_reducible refine gate_store (t := 3) (p := 24) rfl ?_); refine store_event (t := 3) (p := 24) (v := ?vo_w16) (w1 := (wr.setCell ⟨go14, (x16_1 : Int).toNat, none⟩ (.int .i64 1))) ?hg ?ho ?hn ?hr ?_; (case ho => rfl); (case hg => rfl); (case hn => rfl); (case hr => first | (go_simp; done) | (go_simp; rfl)); intro w16 hw; have hg : wr.grownBy w16 (some go14) := (by rw [hw]; exact HP15.2); have hp_ : Kd.R (Kd.int .i64) 3 w16 w.heap.size (fun _ => True) (.slice (some ⟨go14, 0, none⟩) x6_1.length co14) y120 := (by rw [hw, Ny120.out]; exact HP15.1); clear HP15; have n0_ := Aside0.mk (hp_); have n1_ := Aside0.mk (blk_grown (g := gb115) (o := .cells #[.int .i64 a0_0, .slice A0_1 l0_1.length c0_1, .int .i64 a0_2] 24 (0, 0)) (by (with_reducible repeat (first | refine blk_drewN ?_ _ | refine blk_drew ?_ | refine blk_alloc ?_ _)); exact BK115.out) hg (Kd.R_ne HO_6.out BK115.out (by decide))); have n2_ := Aside0.mk ((by rw [hw]; exact below_set (HB.out) GB14.out : Below w.heap.size w w16)); clear HO_6; clear BK115; clear HB; have HO_6 := n0_; have BK115 := n1_; have HB := n2_; clear n0_ n1_ n2_; clear hg hw hp_))
                    go_roundg k1
                    case measure => have := HK1.out; omega
                    case rel => exact ⟨(y120), (wrap64 (x16_1 + 1)), (by first | rfl | (simp; done) | (simp [*]; done)), H', ⟨by have := HK1.out; omega⟩, ⟨by (with_reducible repeat (first | apply Kd.R_alloc | apply Kd.R_drewN | apply Kd.R_drew)); exact HO_6.out⟩, ⟨by (with_reducible repeat (first | refine blk_drewN ?_ _ | refine blk_drew ?_ | refine blk_alloc ?_ _)); exact BK115.out⟩, ⟨by repeat (first | (with_reducible first | exact HB.out | apply below_alloc | apply pw_below_drewN | apply below_drew1 | refine below_set ?_ GE115.out) | exact HB.out)⟩⟩
                  · rw [if_neg c13] at H
                    exact absurd H (by simp)
                · replace c12 := Bool.eq_false_iff.mpr c12
                  subst c12
                  have H1 : (sat_Eval.l0 k1 x6_1 l1 (l1.length : Int) (wrap64 (x16_1 + 1)) a0_0 l0_1 a0_2) = some (r1, r2) := by rw [if_neg (show ¬ (false = true) by decide)] at H; exact H
                  clear H
                  have H := H1
                  clear H1
                  have H' := Aside0.mk H
                  clear H
                  have p119 : 0 ≤ (x16_1 : Int) := of_decide_eq_true (by first | (with_reducible assumption) | assumption)
                  have q119 : x16_1 < (l1.length : Int) := of_decide_eq_true (by first | (with_reducible assumption) | assumption)
                  obtain ⟨ad119, e119, hx119_0⟩ := Kd.at_bool HR1.out x16_1 p119 q119
                  (try rw [← Nbq11.out] at hx119_0)
                  cases e119
                  replace hx119_0 := (HB.out.cell (World.block_lt_of_cell? w _ hx119_0)).trans hx119_0
                  replace p119 := eq_true p119
                  replace q119 := eq_true q119
                  go_wp2
                  go_roundg k1
                  case measure => have := HK1.out; omega
                  case rel => exact ⟨(x6_1), (wrap64 (x16_1 + 1)), (by first | rfl | (simp; done) | (simp [*]; done)), H', ⟨by have := HK1.out; omega⟩, ⟨by (with_reducible repeat (first | apply Kd.R_alloc | apply Kd.R_drewN | apply Kd.R_drew)); exact HO_6.out⟩, ⟨by (with_reducible repeat (first | refine blk_drewN ?_ _ | refine blk_drew ?_ | refine blk_alloc ?_ _)); exact BK115.out⟩, ⟨by repeat (first | (with_reducible first | exact HB.out | apply below_alloc | apply pw_below_drewN | apply below_drew1 | refine below_set ?_ GE115.out) | exact HB.out)⟩⟩
              · rw [if_neg c10] at H
                exact absurd H (by simp)
            · rw [if_neg c9] at H
              exact absurd H (by simp)
          · rw [if_neg c8] at H
            have c8b0 : decide (x16_1 < (l1.length : Int)) = false := decide_eq_false c8
            clear c8
            replace H := Option.bind_eq_some_iff.mp H
            obtain ⟨⟨t121, t122⟩, A170, H⟩ := H
            replace H : (some ((t121 == 1), t122)) = some (r1, r2) := H
            have A17 := Aside0.mk A170
            clear A170
            simp only [Option.some.injEq, Prod.mk.injEq] at H
            obtain ⟨rfl, rfl⟩ := H
            have hcz18_0 : wr.cell? ⟨gb115, 0, none⟩ = some (.int .i64 a0_0) := (blk_cell BK115.out 0).trans rfl
            have hcz18_1 : wr.cell? ⟨gb115, 1, none⟩ = some (.slice A0_1 l0_1.length c0_1) := (blk_cell BK115.out 1).trans rfl
            have hcz18_2 : wr.cell? ⟨gb115, 2, none⟩ = some (.int .i64 a0_2) := (blk_cell BK115.out 2).trans rfl
            have hfz18_0 := blk_frozen BK115.out 0
            have hfz18_1 := blk_frozen BK115.out 1
            have hfz18_2 := blk_frozen BK115.out 2
            obtain ⟨Ao19, co19, eo19⟩ := Kd.R_slice HO_6.out
            subst eo19
            go_wp2_with (first | ((with_reducible refine gate_callee (f := 19) rfl ?_); refine goesL_ (some 29) rfl rfl Try.func19 (by kernel_rfl) rfl #[.agg #[.int .i64 a0_0, .slice A0_1 l0_1.length c0_1, .int .i64 a0_2], .slice Ao19 x6_1.length co19] rfl (by (try simp only [List.map_toArray, List.map_cons, List.map_nil]); first | done | rfl | (simp only [List.length_drop, List.length_take]; rfl)) ?_; (with_reducible refine (sat_Three.calls k1 a0_0 _ _ l0_1 a0_2 _ _ x6_1 t121 t122 _ ?side1 ?side2 ?side3 ?side4 A17.out).mono ?_); (case side1 => repeat (first | exact (Kd.C_below HR0_1.out HB.out) | (with_reducible refine Kd.C_alloc ?_ _) | (with_reducible refine Kd.C_drewN ?_ _) | (with_reducible refine Kd.C_drew ?_))); (case side2 => exact HC0_1.out); (case side3 => repeat (first | exact (Kd.R_reads' HO_6.out).2.2 | (with_reducible refine Kd.C_alloc ?_ _) | (with_reducible refine Kd.C_drewN ?_ _) | (with_reducible refine Kd.C_drew ?_))); (case side4 => exact (Kd.R_reads' HO_6.out).2.1); rintro e w20 ⟨rfl, hb⟩; refine ⟨_, rfl, ?_⟩; have n0_ := Aside0.mk (Kd.R_below (by (with_reducible repeat (first | apply Kd.R_alloc | apply Kd.R_drewN | apply Kd.R_drew)); exact HO_6.out) hb); have n1_ := Aside0.mk (blk_below (g := gb115) (o := .cells #[.int .i64 a0_0, .slice A0_1 l0_1.length c0_1, .int .i64 a0_2] 24 (0, 0)) (by (with_reducible repeat (first | refine blk_drewN ?_ _ | refine blk_drew ?_ | refine blk_alloc ?_ _)); exact BK115.out) hb); have n2_ := Aside0.mk (below_step (by repeat (first | (with_reducible first | exact HB.out | apply below_alloc | apply pw_below_drewN | apply below_drew1 | refine below_set ?_ GE115.out) | exact HB.out)) hb); clear HO_6; clear BK115; clear HB; have HO_6 := n0_; have BK115 := n1_; have HB := n2_; clear n0_ n1_ n2_; (try clear hb); (try clear hb2); (try clear hk); (try clear hi)))
            go_ret2
            exact ⟨by first | rfl | (simp [errW_none, errW_some] <;> rfl) | (simp [*, errW_none, errW_some] <;> rfl), by repeat (first | (with_reducible first | exact HB.out | apply below_alloc | apply pw_below_drewN | apply below_drew1 | refine below_set ?_ GE115.out) | exact HB.out)⟩
    · rw [if_neg c4] at H
      exact absurd H (by simp)
  · rw [if_neg c3] at H
    exact absurd H (by simp)

end Go.Proofs.Ytflknolnclnhfaa.P
