-- Written by the session's own program wip/tools/xprint.py out of the translation, with the kit's print.py on a scratch copy; functions given by hand stand among them.
import Derived.Test.YtflknolnclnhfaaPx0
import Derived.Test.YtflknolnclnhfaaPx2
import Derived.Test.YtflknolnclnhfaaPx3
import Derived.Test.YtflknolnclnhfaaPx4
import Derived.Test.YtflknolnclnhfaaPx5
import Derived.Test.YtflknolnclnhfaaPx9
namespace Go.Proofs.Ytflknolnclnhfaa.P
open Go.RowKit Go.Proofs.YtflknolnclnhfaaW.PrintWords Go.Proofs.YtflknolnclnhfaaW.PrintLast Go.Proofs.YtflknolnclnhfaaW.PrintMore
attribute [local go_sem] max2_int min2_int max_two min_two max_three min_three max_four min_four   -- for this text's walks alone
set_option linter.unusedVariables false
set_option linter.unusedSimpArgs false

/-! ### pentaglotlaw28_SatFirst: function 8, by hand -/
-- leans on 25 22 13 14 24 28
/-- The first that agrees. -/
def findA (k : Nat) (fixed : List Int) : List (List Bool) → Option (Option (List Bool))
  | [] => some none
  | x :: t => (pentaglotlaw28_agrees.f k x fixed).bind fun b => if b = true then some (some x) else findA k fixed t
theorem findA_at {k : Nat} {fixed : List Int} {x : List Bool} {t : List (List Bool)} {o : Option (List Bool)} : ∀ (pre : List (List Bool)), findA k fixed (pre ++ x :: t) = some o → (∀ y ∈ pre, pentaglotlaw28_agrees.f k y fixed = some false) → ∃ b, pentaglotlaw28_agrees.f k x fixed = some b ∧ (b = true → o = some x)
  | [], h, _ => by
    rw [List.nil_append, findA] at h
    obtain ⟨b, hb, h2⟩ := Option.bind_eq_some_iff.1 h
    refine ⟨b, hb, fun e => ?_⟩
    rw [if_pos e] at h2
    exact (Option.some.inj h2).symm
  | y :: pre, h, hp => by
    rw [List.cons_append, findA, hp y List.mem_cons_self, Option.bind_some, if_neg (by decide)] at h
    exact findA_at pre h (fun z hz => hp z (List.mem_cons_of_mem _ hz))
theorem findA_all {k : Nat} {fixed : List Int} {o : Option (List Bool)} : ∀ (xs : List (List Bool)), findA k fixed xs = some o → (∀ y ∈ xs, pentaglotlaw28_agrees.f k y fixed = some false) → o = none
  | [], h, _ => (Option.some.inj h).symm
  | y :: xs, h, hp => by
    rw [findA, hp y List.mem_cons_self, Option.bind_some, if_neg (by decide)] at h
    exact findA_all xs h (fun z hz => hp z (List.mem_cons_of_mem _ hz))
structure AtF (w W : World) (n0 : Int) (A : Option Addr) (c : Nat) (gs : List S52) (n2 : Int) (Af : Option Addr) (cf : Nat) (fixed : List Int) (budget : Int) : Prop where
  bel : Below w.heap.size w W
  box : W.heap[w.heap.size]? = some (.cells #[.int .i64 n0, .slice A gs.length c, .int .i64 n2] 24 (0, 0))
  bf : W.heap[w.heap.size + 1]? = some (.cells #[.slice Af fixed.length cf] 33 (0, 0))
  bb : W.heap[w.heap.size + 2]? = some (.cells #[.int .i64 budget] 3 (0, 0))
  br : W.heap[w.heap.size + 3]? = some (.cells #[.bool false] 4 (0, 0))
section
variable {w W W1 : World} {n0 : Int} {A : Option Addr} {c : Nat} {gs : List S52} {n2 : Int} {Af : Option Addr} {cf : Nat} {fixed : List Int} {budget : Int}
theorem AtF.step (h : AtF w W n0 A c gs n2 Af cf fixed budget) (hb : Below W.heap.size W W1) : AtF w W1 n0 A c gs n2 Af cf fixed budget := ⟨h.bel.trans (hb.mono h.bel.size), blk_below h.box hb, blk_below h.bf hb, blk_below h.bb hb, blk_below h.br hb⟩
theorem AtF.alloc (h : AtF w W n0 A c gs n2 Af cf fixed budget) (o : Obj) : AtF w (W.alloc o) n0 A c gs n2 Af cf fixed budget := h.step (below_alloc (Below.refl _ _) o)
theorem AtF.new (w : World) (n0 : Int) (A : Option Addr) (c : Nat) (gs : List S52) (n2 : Int) (Af : Option Addr) (cf : Nat) (fixed : List Int) (budget : Int) :
    AtF w ((((w.alloc (.cells #[.int .i64 n0, .slice A gs.length c, .int .i64 n2] 24)).alloc (.cells #[.slice Af fixed.length cf] 33)).alloc (.cells #[.int .i64 budget] 3)).alloc (.cells #[.bool false] 4)) n0 A c gs n2 Af cf fixed budget := by
  refine ⟨below_alloc (below_alloc (below_alloc (below_alloc (Below.refl _ _) _) _) _) _, blk_alloc (blk_alloc (blk_alloc (heap_alloc_new _ _) _) _) _, ?_, ?_, ?_⟩
  · have h := heap_alloc_new (w.alloc (.cells #[.int .i64 n0, .slice A gs.length c, .int .i64 n2] 24)) (.cells #[.slice Af fixed.length cf] 33)
    simp only [World.size_alloc] at h
    exact blk_alloc (blk_alloc h _) _
  · have h := heap_alloc_new ((w.alloc (.cells #[.int .i64 n0, .slice A gs.length c, .int .i64 n2] 24)).alloc (.cells #[.slice Af fixed.length cf] 33)) (.cells #[.int .i64 budget] 3)
    simp only [World.size_alloc] at h
    exact blk_alloc h _
  · have h := heap_alloc_new (((w.alloc (.cells #[.int .i64 n0, .slice A gs.length c, .int .i64 n2] 24)).alloc (.cells #[.slice Af fixed.length cf] 33)).alloc (.cells #[.int .i64 budget] 3)) (.cells #[.bool false] 4)
    simp only [World.size_alloc] at h
    exact h
theorem AtF.c0 (h : AtF w W n0 A c gs n2 Af cf fixed budget) : W.cell? ⟨w.heap.size, 0, none⟩ = some (.int .i64 n0) := (blk_cell h.box 0).trans rfl
theorem AtF.c1 (h : AtF w W n0 A c gs n2 Af cf fixed budget) : W.cell? ⟨w.heap.size, 1, none⟩ = some (.slice A gs.length c) := (blk_cell h.box 1).trans rfl
theorem AtF.c2 (h : AtF w W n0 A c gs n2 Af cf fixed budget) : W.cell? ⟨w.heap.size, 2, none⟩ = some (.int .i64 n2) := (blk_cell h.box 2).trans rfl
theorem AtF.cf_ (h : AtF w W n0 A c gs n2 Af cf fixed budget) : W.cell? ⟨w.heap.size + 1, 0, none⟩ = some (.slice Af fixed.length cf) := (blk_cell h.bf 0).trans rfl
theorem AtF.cb_ (h : AtF w W n0 A c gs n2 Af cf fixed budget) : W.cell? ⟨w.heap.size + 2, 0, none⟩ = some (.int .i64 budget) := (blk_cell h.bb 0).trans rfl
theorem AtF.cr_ (h : AtF w W n0 A c gs n2 Af cf fixed budget) : W.cell? ⟨w.heap.size + 3, 0, none⟩ = some (.bool false) := (blk_cell h.br 0).trans rfl
theorem AtF.fr_ (h : AtF w W n0 A c gs n2 Af cf fixed budget) : W.frozen? ⟨w.heap.size + 3, 0, none⟩ = false := blk_frozen h.br 0
end
def pentaglotlaw28_SatFirst.f (k : Nat) (a0_0 : Int) (l0_1 : List (S52)) (a0_2 : Int) (l1 : List Int) (a2 : Int) : Option Bool :=
  if pentaglotlaw28_awake.f k = some true then (pentaglotref28_Large.f k a0_0 l0_1 a0_2 60).bind fun b => if b = true then some true else if 8 < a0_0 then some true else if 8 < (l1.length : Int) then some true else
    (sat_Least.f k a0_0 l0_1 a0_2 l1 a2).bind fun a => if a.2.2 = 1 ∨ a.2.2 = 7 then (if a.1 = [] ∧ a.2.1 = 0 then some true else none) else
      (sat_All.seq k a0_0 l0_1 a0_2).bind fun xs => (findA k l1 xs).bind fun o => match o with
        | some x => if a.2.2 = 0 ∧ 1 ≤ a.2.1 ∧ a.2.1 ≤ a2 ∧ pentaglotlaw28_same.f k a.1 x = some true then some true else none
        | none => if a.2.2 = 4 ∧ a.1 = [] then some true else none
  else none
set_option maxHeartbeats 16000000 in
set_option maxRecDepth 100000 in
theorem pentaglotlaw28_SatFirst.calls (k : Nat) (a0_0 : Int) (A0_1 : Option Addr) (c0_1 : Nat) (l0_1 : List (S52)) (a0_2 : Int) (A1 : Option Addr) (c1 : Nat) (l1 : List Int) (a2 : Int) (r : Bool) (w : World) (hr0_1 : Kd.C k52 w A0_1 l0_1.length l0_1) (hc0_1 : l0_1.length ≤ c0_1) (hr1 : Kd.C (Kd.int .i64) w A1 l1.length l1) (hc1 : l1.length ≤ c1) (h : pentaglotlaw28_SatFirst.f k a0_0 l0_1 a0_2 l1 a2 = some r) :
    Calls Try.prog 8 #[.agg #[.int .i64 a0_0, .slice A0_1 l0_1.length c0_1, .int .i64 a0_2], .slice A1 l1.length c1, .int .i64 a2] w fun e w' => e = .returned (.bool r) ∧ Below w.heap.size w w' := by
  unfold pentaglotlaw28_SatFirst.f at h
  by_cases haw : pentaglotlaw28_awake.f k = some true
  case neg => rw [if_neg haw] at h; cases h
  rw [if_pos haw] at h
  obtain ⟨b, hlg, h2⟩ := Option.bind_eq_some_iff.1 h
  clear h
  have hu24 := Try.underlying24
  have HG := Aside0.mk (Kd.C_F heap52 hr0_1)
  have HF := Aside0.mk hr1
  have HX0 := Aside0.mk (AtF.new w a0_0 A0_1 c0_1 l0_1 a0_2 A1 c1 l1 a2)
  have a13 := fun (W : World) => pentaglotlaw28_awake.calls k true W haw
  have a14 := fun (W : World) (hW : Below w.heap.size w W) => pentaglotref28_Large.calls k a0_0 A0_1 c0_1 l0_1 a0_2 60 b W (Kd.C_below hr0_1 hW) hc0_1 hlg
  have HC := Aside0.mk hc0_1
  have HC1 := Aside0.mk hc1
  clear haw hlg hc0_1 hr0_1 hr1 hc1
  by_cases hb : b = true ∨ 8 < a0_0 ∨ 8 < (l1.length : Int)
  · obtain rfl : r = true := by
      cases b with
      | true => exact (Option.some.inj h2).symm
      | false =>
        rw [if_neg (by decide)] at h2
        by_cases h8 : 8 < a0_0
        · rw [if_pos h8] at h2; exact (Option.some.inj h2).symm
        · rw [if_neg h8, if_pos (by rcases hb with hb | hb | hb; cases hb; exact absurd hb h8; exact hb)] at h2; exact (Option.some.inj h2).symm
    clear h2
    refine calls_of_wp_marks Try.func8 rfl ?_
    simp only [Try.ntmps8, List.size_toArray, List.length_cons, List.length_nil, Nat.reduceAdd, Nat.reduceSub, Array.replicate_succ, Array.replicate_zero, List.push_toArray, List.append_toArray, List.nil_append, List.cons_append]
    have fin : ∀ W : World, AtF w W a0_0 A0_1 c0_1 l0_1 a0_2 A1 c1 l1 a2 → (W.setCell ⟨w.heap.size + 3, 0, none⟩ (.bool true)).cell? ⟨w.heap.size + 3, 0, none⟩ = some (.bool true) ∧ Below w.heap.size w (W.setCell ⟨w.heap.size + 3, 0, none⟩ (.bool true)) := fun W hW => ⟨(blk_cell (blk_put hW.br 0 (.bool true) rfl) 0).trans rfl, hW.bel.setCell (p := ⟨w.heap.size + 3, 0, none⟩) (Nat.le_add_right _ _) _⟩
    cases b with
    | true =>
      clear hb
      go_wp2_with (first | (go_at_call 13; refine (a13 _).mono ?_; rintro e w1 ⟨rfl, hb1⟩; have HX1 := Aside0.mk (HX0.out.step hb1); have y0 := HX1.out.c0; have y1 := HX1.out.c1; have y2 := HX1.out.c2; clear hb1 a13) | (go_at_call 14; refine (a14 _ HX1.out.bel).mono ?_; rintro e w2 ⟨rfl, hb2⟩; have HX2 := Aside0.mk (HX1.out.step hb2); clear hb2 a14 y0 y1 y2; have y3 := HX2.out.cr_; have y4 := HX2.out.fr_))
      obtain ⟨q1, q2⟩ := fin _ HX2.out
      exact leavesM_nil (v := .bool true) (by simp [results, Try.results8, go_sem, q1]) ⟨rfl, q2⟩
    | false =>
      by_cases h8 : 8 < a0_0
      · go_wp2_with (first | (go_at_call 13; refine (a13 _).mono ?_; rintro e w1 ⟨rfl, hb1⟩; have HX1 := Aside0.mk (HX0.out.step hb1); have y0 := HX1.out.c0; have y1 := HX1.out.c1; have y2 := HX1.out.c2; clear hb1 a13) | (go_at_call 14; refine (a14 _ HX1.out.bel).mono ?_; rintro e w2 ⟨rfl, hb2⟩; have HX2 := Aside0.mk (HX1.out.step hb2); clear hb2 a14 y0 y1 y2; have y0 := HX2.out.c0; have y3 := HX2.out.cr_; have y4 := HX2.out.fr_))
        obtain ⟨q1, q2⟩ := fin _ HX2.out
        exact leavesM_nil (v := .bool true) (by simp [results, Try.results8, go_sem, q1]) ⟨rfl, q2⟩
      · have h9 : 8 < l1.length := by rcases hb with hb | hb | hb; cases hb; exact absurd hb h8; omega
        go_wp2_with (first | (go_at_call 13; refine (a13 _).mono ?_; rintro e w1 ⟨rfl, hb1⟩; have HX1 := Aside0.mk (HX0.out.step hb1); have y0 := HX1.out.c0; have y1 := HX1.out.c1; have y2 := HX1.out.c2; clear hb1 a13) | (go_at_call 14; refine (a14 _ HX1.out.bel).mono ?_; rintro e w2 ⟨rfl, hb2⟩; have HX2 := Aside0.mk (HX1.out.step hb2); clear hb2 a14 y0 y1 y2; have y0 := HX2.out.c0; have y5 := HX2.out.cf_; have y3 := HX2.out.cr_; have y4 := HX2.out.fr_))
        obtain ⟨q1, q2⟩ := fin _ HX2.out
        exact leavesM_nil (v := .bool true) (by simp [results, Try.results8, go_sem, q1]) ⟨rfl, q2⟩
  obtain rfl : b = false := by cases b with | true => exact absurd (.inl rfl) hb | false => rfl
  have hn8 : ¬ 8 < a0_0 := fun h => hb (.inr (.inl h))
  have hl8 : ¬ 8 < (l1.length : Int) := fun h => hb (.inr (.inr h))
  rw [if_neg (by decide), if_neg hn8, if_neg hl8] at h2
  obtain ⟨⟨av, nv, ev⟩, hle, h3⟩ := Option.bind_eq_some_iff.1 h2
  have hl8' : ¬ 8 < l1.length := by omega
  have a22 := fun (W : World) (hW : Below w.heap.size w W) => sat_Least.calls k a0_0 A0_1 c0_1 l0_1 a0_2 A1 c1 l1 a2 av nv ev W (Kd.F_now (Kd.F_below HG.out hW)) HC.out (Kd.C_below HF.out hW) HC1.out hle
  have H3 := Aside0.mk h3
  clear h2 hb hle h3 hl8
  refine calls_of_wp_marks Try.func8 rfl ?_
  simp only [Try.ntmps8, List.size_toArray, List.length_cons, List.length_nil, Nat.reduceAdd, Nat.reduceSub, Array.replicate_succ, Array.replicate_zero, List.push_toArray, List.append_toArray, List.nil_append, List.cons_append]
  go_upto_region 6 with (first | (go_at_call 13; refine (a13 _).mono ?_; rintro e w1 ⟨rfl, hb1⟩; have HX1 := Aside0.mk (HX0.out.step hb1); have y0 := HX1.out.c0; have y1 := HX1.out.c1; have y2 := HX1.out.c2; clear hb1 a13) | (go_at_call 14; refine (a14 _ HX1.out.bel).mono ?_; rintro e w2 ⟨rfl, hb2⟩; have HX2 := Aside0.mk (HX1.out.step hb2); clear hb2 a14 y0 y1 y2; have y0 := HX2.out.c0; have y1 := HX2.out.c1; have y2 := HX2.out.c2; have y5 := HX2.out.cf_; have y6 := HX2.out.cb_) | (go_at_call 22; refine (a22 _ HX2.out.bel).mono ?_; rintro e w3 ⟨va, rfl, hva, hb3⟩; obtain ⟨Aa, ca, rfl, hca, hCa⟩ := Kd.R_reads hva; have HX3 := Aside0.mk (HX2.out.step hb3); have HA := Aside0.mk hCa; have HCA := Aside0.mk hca; clear hb3 a22 y0 y1 y2 y5 y6 hva hCa hca))
  have hAB : ((((w3.alloc (.cells #[.slice Aa av.length ca] 25)).alloc (.cells #[.int .i64 nv] 3)).alloc (.cells #[.int .i64 ev] 28))).heap[w3.heap.size]? = some (.cells #[.slice Aa av.length ca] 25 (0, 0)) := blk_alloc (blk_alloc (heap_alloc_new _ _) _) _
  have hNB : ((((w3.alloc (.cells #[.slice Aa av.length ca] 25)).alloc (.cells #[.int .i64 nv] 3)).alloc (.cells #[.int .i64 ev] 28))).heap[w3.heap.size + 1]? = some (.cells #[.int .i64 nv] 3 (0, 0)) := by
    have h := heap_alloc_new (w3.alloc (.cells #[.slice Aa av.length ca] 25)) (.cells #[.int .i64 nv] 3)
    simp only [World.size_alloc] at h
    exact blk_alloc h _
  have hEB : ((((w3.alloc (.cells #[.slice Aa av.length ca] 25)).alloc (.cells #[.int .i64 nv] 3)).alloc (.cells #[.int .i64 ev] 28))).heap[w3.heap.size + 2]? = some (.cells #[.int .i64 ev] 28 (0, 0)) := by
    have h := heap_alloc_new ((w3.alloc (.cells #[.slice Aa av.length ca] 25)).alloc (.cells #[.int .i64 nv] 3)) (.cells #[.int .i64 ev] 28)
    simp only [World.size_alloc] at h
    exact h
  have hB4 : Below w3.heap.size w3 ((((w3.alloc (.cells #[.slice Aa av.length ca] 25)).alloc (.cells #[.int .i64 nv] 3)).alloc (.cells #[.int .i64 ev] 28))) := below_alloc (below_alloc (below_alloc (Below.refl _ _) _) _) _
  have hX4 := HX3.out.step hB4
  have hA4 := Kd.C_below HA.out hB4
  have hS4 : w3.heap.size ≤ (((w3.alloc (.cells #[.slice Aa av.length ca] 25)).alloc (.cells #[.int .i64 nv] 3)).alloc (.cells #[.int .i64 ev] 28)).heap.size := hB4.size
  generalize ((w3.alloc (.cells #[.slice Aa av.length ca] 25)).alloc (.cells #[.int .i64 nv] 3)).alloc (.cells #[.int .i64 ev] 28) = W4 at hAB hNB hEB hB4 hX4 hA4 hS4 ⊢
  have xa : W4.cell? ⟨w3.heap.size, 0, none⟩ = some (.slice Aa av.length ca) := (blk_cell hAB 0).trans rfl
  have xn : W4.cell? ⟨w3.heap.size + 1, 0, none⟩ = some (.int .i64 nv) := (blk_cell hNB 0).trans rfl
  have xe : W4.cell? ⟨w3.heap.size + 2, 0, none⟩ = some (.int .i64 ev) := (blk_cell hEB 0).trans rfl
  have HX4 := Aside0.mk hX4
  have HAB := Aside0.mk hAB
  have HNB := Aside0.mk hNB
  have HEB := Aside0.mk hEB
  have HA4 := Aside0.mk hA4
  have hw3 : w.heap.size + 3 < w3.heap.size := blk_lt HX3.out.br
  have hw4 : w3.heap.size + 2 < W4.heap.size := blk_lt hEB
  clear hX4 hAB hNB hEB hA4 hB4 HX3 HA
  have h3 := H3.out
  clear H3

  by_cases hev : ev = 1 ∨ ev = 7
  · rw [if_pos hev] at h3
    by_cases hq : av = [] ∧ nv = 0
    case neg => rw [if_neg hq] at h3; cases h3
    rw [if_pos hq] at h3
    obtain rfl := Option.some.inj h3
    obtain ⟨rfl, rfl⟩ := hq
    clear h3
    have y3 := HX4.out.cr_
    have y4 := HX4.out.fr_
    have q1 : (W4.setCell ⟨w.heap.size + 3, 0, none⟩ (.bool true)).cell? ⟨w.heap.size + 3, 0, none⟩ = some (.bool true) := (blk_cell (blk_put HX4.out.br 0 (.bool true) rfl) 0).trans rfl
    rcases hev with rfl | rfl
    all_goals go_wp2
    all_goals exact leavesM_nil (v := .bool true) (by simp [results, Try.results8, go_sem, q1]) ⟨rfl, HX4.out.bel.setCell (p := ⟨w.heap.size + 3, 0, none⟩) (Nat.le_add_right _ _) _⟩
  rw [if_neg hev] at h3
  obtain ⟨xs, hxs, h4⟩ := Option.bind_eq_some_iff.1 h3
  obtain ⟨o, ho, h5⟩ := Option.bind_eq_some_iff.1 h4
  have hev1 : (ev == 1) = false := by rw [beq_eq_false_iff_ne]; exact fun e => hev (.inl e)
  have hev7 : (ev == 7) = false := by rw [beq_eq_false_iff_ne]; exact fun e => hev (.inr e)
  have HXS := Aside0.mk hxs
  have HO := Aside0.mk ho
  have H5 := Aside0.mk h5
  clear hxs ho h5 h3 h4 hev
  have y0 := HX4.out.c0
  have y1 := HX4.out.c1
  have y2 := HX4.out.c2
  go_wp2_with (go_at_call 26; refine (All_any a0_0 A0_1 c0_1 l0_1 a0_2 _).mono ?_; rintro e' w5 ⟨cb, rfl, hcb, hcc, hb5⟩; have HX5 := Aside0.mk (HX4.out.step hb5); have HCC := Aside0.mk hcc; have HAB5 := Aside0.mk (blk_below HAB.out hb5); have HNB5 := Aside0.mk (blk_below HNB.out hb5); have HEB5 := Aside0.mk (blk_below HEB.out hb5); have HA5 := Aside0.mk (Kd.C_below HA4.out hb5); have HCB := Aside0.mk hcb; have HS5 := Aside0.mk hb5.size; clear hb5 hcc hcb y0 y1 y2 xa xn xe)
  have hcb : W4.heap.size ≤ cb := HCB.out
  have hw5 : cb < w5.heap.size := blk_lt HCC.out
  refine wp_rangeFunc_iter1 (gf := 41) (lb := #[.pointer (some ⟨cb, 0, none⟩)]) (Rel := relB w.heap.size) (Z := fun k => k = cb ∨ k < w.heap.size) (w0 := w5) (xs := xs) rfl (enters_of Try.func41 (by kernel_rfl) rfl)
    (all1_iter k cb w.heap.size a0_0 a0_2 A0_1 c0_1 l0_1 w5 HCC.out (Kd.F_below HG.out HX5.out.bel) HC.out (by omega) xs HXS.out) (Below.refl _ _) (relB_put _)
    (fun Y pre W => Y (w.heap.size + 3) ∧ (∀ i, Y i → i = w.heap.size + 3) ∧ KeepS (fun i => i < w5.heap.size) w5 W ∧ ∀ y ∈ pre, pentaglotlaw28_agrees.f k y l1 = some false)
    (fun c Y pre W => c = .ret ∧ r = true ∧ KeepS (fun i => i < w5.heap.size ∧ i ≠ w.heap.size + 3) w5 W ∧ W.heap[w.heap.size + 3]? = some (.cells #[.bool true] 4 (0, 0)))
    (fun Y pre A B h hk => ⟨h.1, h.2.1, h.2.2.1.trans (hk.mono (fun i _ hi => .inl hi)), h.2.2.2⟩) (fun c Y pre A B h hk => ⟨h.1, h.2.1, h.2.2.1.trans (hk.mono (fun i _ hi => .inl hi.1)), hk.blk h.2.2.2 (.inl (by omega))⟩)
    (fun i => i = w.heap.size + 3) ?Y0 ?hZ ⟨rfl, fun _ h => h, KeepS.refl _ _, fun _ h => by cases h⟩ ?asg ?assign ?body ?done ?stop
  case assign =>
    intro l v A K hK
    refine wpIn_region_of (r := some l) (by intro a w h; exact h) (by simp) ?_
    go_wp2
    exact hK
  case Y0 => rintro i rfl; exact ⟨by omega, fun h => h.elim (fun h => by omega) (fun h => by omega)⟩
  case hZ => exact fun i hk h => h.elim (fun h => by omega) (fun h => by omega)
  case body =>
    rintro l m Y pre x vx S A hpre ⟨hy, hy0, hkw, hpa⟩ hrel hl hlm hm hY hS
    obtain ⟨t, htx⟩ := hpre
    have hox := HO.out
    rw [← htx, List.append_assoc, List.singleton_append] at hox
    obtain ⟨bx, hbx, hbo⟩ := findA_at pre hox hpa
    have HKW := Aside0.mk hkw
    have HPA := Aside0.mk hpa
    have hrel' : Kd.R Kd.bool 4 A w.heap.size S vx x := hrel
    obtain ⟨Av, cv, rfl, hcv, hCv⟩ := Kd.R_reads hrel'
    have xf : A.cell? ⟨w.heap.size + 1, 0, none⟩ = some (.slice A1 l1.length c1) := keepS_at hkw HX5.out.bf (by omega)
    have a28 := fun (W : World) (hW : Below A.heap.size A W) => pentaglotlaw28_agrees.calls k Av cv x A1 c1 l1 bx W (Kd.C_below hCv hW) hcv (Kd.C_below (Kd.C_below HF.out (HX5.out.bel.trans (hkw.below (by omega) (fun i hi => by omega)))) hW) HC1.out hbx
    have HCV := Aside0.mk hCv
    have HBX := Aside0.mk hbx
    clear hrel hrel' htx hox hbx hpa hCv
    refine wpIn_block ?_
    refine wpIn_seq ?_
    refine wpIn_region_of (r := some l) (by rintro a w ⟨Y', h1, h2, h3, h⟩; exact h) (by simp) ?_
    cases bx with
    | false =>
      go_wp2_with (go_at_call 28; refine (a28 _ (Below.refl _ _)).mono ?_; rintro e' W1 ⟨rfl, ⟨nd, rfl⟩⟩; clear a28)
      refine wpIn_cond_false rfl ?_
      refine wpIn_skip ?_
      have hdn : ∀ T, KeepS T A (A.drewN nd) := fun T => KeepS.of_below (pw_below_drewN (Below.refl A.heap.size A) nd) (fun i hi _ => hi)
      exact ⟨Y, fun i hi => .inl hi, fun i hi => by have := (hY i hi).1; show i < A.heap.size; omega, hdn _, hy, hy0, HKW.out.trans (hdn _), fun y hyy => by
        rcases List.mem_append.1 hyy with h | h
        · exact HPA.out y h
        · rw [List.mem_singleton.1 h]; exact HBX.out⟩
    | true =>
      obtain rfl := hbo rfl
      have h5 := H5.out
      by_cases hq : ev = 0 ∧ 1 ≤ nv ∧ nv ≤ a2 ∧ pentaglotlaw28_same.f k av x = some true
      case neg => simp only [if_neg hq] at h5; cases h5
      simp only [if_pos hq] at h5
      obtain rfl := Option.some.inj h5
      obtain ⟨rfl, hq1, hq2, hq3⟩ := hq
      have xe0 : A.cell? ⟨w3.heap.size + 2, 0, none⟩ = some (.int .i64 0) := keepS_at HKW.out HEB5.out (by omega)
      have xn0 : A.cell? ⟨w3.heap.size + 1, 0, none⟩ = some (.int .i64 nv) := keepS_at HKW.out HNB5.out (by omega)
      have xa0 : A.cell? ⟨w3.heap.size, 0, none⟩ = some (.slice Aa av.length ca) := keepS_at HKW.out HAB5.out (by omega)
      have xb0 : A.cell? ⟨w.heap.size + 2, 0, none⟩ = some (.int .i64 a2) := keepS_at HKW.out HX5.out.bb (by omega)
      have hrb := HKW.out.blk HX5.out.br (by omega)
      have xr0 : A.cell? ⟨w.heap.size + 3, 0, none⟩ = some (.bool false) := (blk_cell hrb 0).trans rfl
      have xr1 := blk_frozen hrb 0
      have HRB := Aside0.mk hrb
      have hAa : Kd.C Kd.bool A Aa av.length av := Kd.C_below (Kd.C_below HA5.out (KeepS.below HKW.out (B := w5.heap.size) (Nat.le_refl _) (fun i hi => hi))) (Below.refl _ _)
      have a24 := fun (n m' : Nat) => pentaglotlaw28_same.calls k Aa ca av Av cv x true ((A.drewN n)) (Kd.C_below hAa (pw_below_drewN (Below.refl _ _) n)) HCA.out (Kd.C_below HCV.out (pw_below_drewN (Below.refl _ _) n)) hcv hq3
      clear hrb hAa hq3 h5
      go_wp2_with (go_at_call 28; refine (a28 _ (Below.refl _ _)).mono ?_; rintro e' W1 ⟨rfl, ⟨nd, rfl⟩⟩; clear a28)
      refine wpIn_cond_true rfl ?_
      refine wpIn_seq ?_
      refine wpIn_region_of (r := some l) (by rintro a w ⟨Y', h1, h2, h3, h⟩; exact h) (by simp) ?_
      go_wp2_with (go_at_call 24; refine (a24 _ 0).mono ?_; rintro e' W1 ⟨rfl, ⟨nd2, rfl⟩⟩; clear a24)
      refine wpIn_ret ?_
      have hdn : ∀ T, KeepS T A (A.drewN (nd + nd2)) := fun T => KeepS.of_below (pw_below_drewN (Below.refl A.heap.size A) _) (fun i hi _ => hi)
      exact ⟨Y, fun i hi => .inl hi, fun i hi => by have := (hY i hi).1; simp [World.setCell]; show i < A.heap.size; omega, (hdn _).trans (KeepS.set_ _ _ _ (fun h => h.2.1 hy)), rfl, trivial, ((HKW.out.mono (fun i _ h => h.1)).trans (hdn _)).trans (KeepS.set_ _ _ _ (fun h => h.2 rfl)), blk_put (blk_drewN HRB.out _) 0 _ rfl⟩
  case done =>
    rintro D Y W hD ⟨hy, hy0, hkw, hpa⟩ hK
    obtain rfl := findA_all xs HO.out hpa
    have h5 := H5.out
    by_cases hq : ev = 4 ∧ av = []
    case neg => simp only [if_neg hq] at h5; cases h5
    simp only [if_pos hq] at h5
    obtain rfl := Option.some.inj h5
    obtain ⟨rfl, rfl⟩ := hq
    have xe0 : W.cell? ⟨w3.heap.size + 2, 0, none⟩ = some (.int .i64 4) := keepS_at hkw HEB5.out (by omega)
    have xa0 : W.cell? ⟨w3.heap.size, 0, none⟩ = some (.slice Aa ([] : List Bool).length ca) := keepS_at hkw HAB5.out (by omega)
    have hrb := hkw.blk HX5.out.br (by omega)
    have xr0 : W.cell? ⟨w.heap.size + 3, 0, none⟩ = some (.bool false) := (blk_cell hrb 0).trans rfl
    have xr1 := blk_frozen hrb 0
    have HK := Aside0.mk hK
    have HBW := Aside0.mk (HX5.out.bel.trans (hkw.below (by omega) (fun i hi => by omega)))
    have HRB := Aside0.mk hrb
    clear hkw hpa hK hrb h5
    go_wp2
    have hK2 : (W.setCell ⟨w.heap.size + 3, 0, none⟩ (.bool true)).heap[D]? = some (.deferred (some [])) := (Below.heap_setCell _ _ _ _ (show D ≠ w.heap.size + 3 by omega)).trans HK.out
    have q1 : ((W.setCell ⟨w.heap.size + 3, 0, none⟩ (.bool true)).putObj D (.deferred none)).cell? ⟨w.heap.size + 3, 0, none⟩ = some (.bool true) := (blk_cell ((World.putObj_heap_other (by omega)).trans (blk_put HRB.out 0 (.bool true) rfl)) 0).trans rfl
    exact leavesM_mark hK2 (leavesM_nil (v := .bool true) (by simp [results, Try.results8, go_sem, q1]) ⟨rfl, below_putObj (HBW.out.setCell (p := ⟨w.heap.size + 3, 0, none⟩) (Nat.le_add_right _ _) _) (by omega) _⟩)
  case stop =>
    rintro D c Y pre W hD hpre ⟨rfl, rfl, hkw, hrb⟩ hK
    have q1 : (W.putObj D (.deferred none)).cell? ⟨w.heap.size + 3, 0, none⟩ = some (.bool true) := (blk_cell ((World.putObj_heap_other (by omega)).trans hrb) 0).trans rfl
    refine wp_ret ?_
    exact leavesM_mark hK (leavesM_nil (v := .bool true) (by simp [results, Try.results8, go_sem, q1]) ⟨rfl, below_putObj (HX5.out.bel.trans (hkw.below (by omega) (fun i hi => ⟨by omega, by omega⟩))) (by omega) _⟩)

/-- THE ONE PURE STATEMENT of pentaglotlaw28_SatFirst. -/
def pentaglotlaw28_SatFirst.Pure : Prop := ∀ (p0 : S24) (p1 : List Int) (p2 : Int), wf24 p0 → (∀ a ∈ p1, (Lit.int .i64 a).wf = true) → (Lit.int .i64 p2).wf = true → p1.length ≤ 9223372036854775807 → ∃ k, pentaglotlaw28_SatFirst.f k p0.f0 p0.f1 p0.f2 p1 p2 = some true

end Go.Proofs.Ytflknolnclnhfaa.P
