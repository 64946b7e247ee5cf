-- Written by the session's own program wip/tools/xprint.py out of the translation, with the kit's print.py on a scratch copy; functions given by hand stand among them.
import Derived.Test.YtflknolnclnhfaaPx0
import Derived.Test.YtflknolnclnhfaaPx2
import Derived.Test.YtflknolnclnhfaaPx4
import Derived.Test.YtflknolnclnhfaaPx5
namespace Go.Proofs.Ytflknolnclnhfaa.P
open Go.RowKit Go.Proofs.YtflknolnclnhfaaW.PrintWords Go.Proofs.YtflknolnclnhfaaW.PrintLast Go.Proofs.YtflknolnclnhfaaW.PrintMore
attribute [local go_sem] max2_int min2_int max_two min_two max_three min_three max_four min_four   -- for this text's walks alone
set_option linter.unusedVariables false
set_option linter.unusedSimpArgs false

/-! ### pentaglotlaw28_SatStops: function 11, by hand -/
-- leans on 25 13 14 24
/-- Rows of bools that are collected in a box (block gb); W0 is the world where the loop began. -/
def Got2 (W0 : World) (gb N : Nat) (Y : Nat → Prop) (pre : List (List Bool)) (W : World) : Prop :=
  Y gb ∧ (∀ k, Y k → k = gb ∨ W0.heap.size ≤ k) ∧ KeepS (fun i => i < W0.heap.size ∧ i ≠ gb) W0 W ∧ ∃ v, W.heap[gb]? = some (.cells #[v] 43 (0, 0)) ∧ Kd.R (Kd.slice 4 Kd.bool) 25 W N Y v pre
theorem Got2.keep {W0 W W1 : World} {gb N B : Nat} {Y : Nat → Prop} {pre : List (List Bool)} (h : Got2 W0 gb N Y pre W) (hB : W0.heap.size ≤ B) (hk : KeepS (fun i => i < B ∨ Y i) W W1) : Got2 W0 gb N Y pre W1 := by
  obtain ⟨h1, h0, h4, v, h2, h3⟩ := h
  exact ⟨h1, h0, h4.trans (hk.mono (fun i _ hi => .inl (by omega))), v, hk.blk h2 (.inr h1), Kd.R_step h3 (fun k hy hlt => hk.block k hlt (.inr hy))⟩
theorem Got2.put {W0 W w1 : World} {gb N m : Nat} {Y S : Nat → Prop} {pre pre1 : List (List Bool)} {v v1 : Value}
    (h1 : Y gb) (h0 : ∀ k, Y k → k = gb ∨ W0.heap.size ≤ k) (h4 : KeepS (fun i => i < W0.heap.size ∧ i ≠ gb) W0 W) (h2 : W.heap[gb]? = some (.cells #[v] 43 (0, 0))) (h3 : Kd.R (Kd.slice 4 Kd.bool) 25 W N Y v pre)
    (hg : W.grownBy w1 v.ownBlock) (hr : Kd.R (Kd.slice 4 Kd.bool) 25 w1 N (fun k => Y k ∨ S k ∨ m ≤ k) v1 pre1) (hw : W0.heap.size ≤ m) (hS : ∀ k, S k → W0.heap.size ≤ k) :
    ∃ Y' : Nat → Prop, (∀ k, Y' k → Y k ∨ S k ∨ m ≤ k) ∧ (∀ k, Y' k → k < (w1.setCell ⟨gb, 0, none⟩ v1).heap.size) ∧ KeepS (fun i => i < m ∧ ¬ Y i ∧ ¬ S i) W (w1.setCell ⟨gb, 0, none⟩ v1) ∧ Got2 W0 gb N Y' pre1 (w1.setCell ⟨gb, 0, none⟩ v1) := by
  have hv : ∀ k, v.ownBlock = some k → Y k := h3.1
  have hgb : w1.heap[gb]? = some (.cells #[v] 43 (0, 0)) := blk_grown h2 hg (Kd.R_ne h3 h2 (by decide))
  have hk0 : KeepS (fun i => ¬ Y i) W (w1.setCell ⟨gb, 0, none⟩ v1) :=
    KeepS.trans ⟨hg.os, hg.tape, hg.output, hg.size, fun i hi hs => hg.block i hi (fun e => hs (hv i e.symm))⟩ (KeepS.set_ _ _ _ (fun hs => hs h1))
  have hr2 := Kd.R_set hr hgb (by intro q hq; simp [Kd.slice, Kd.bool, Kd.scalar] at hq; omega) 0 v1
  have h5 := h4.trans (hk0.mono (fun i hi (h : i < W0.heap.size ∧ i ≠ gb) hy => by have := h0 i hy; omega))
  refine ⟨fun k => (Y k ∨ S k ∨ m ≤ k) ∧ k < (w1.setCell ⟨gb, 0, none⟩ v1).heap.size, fun k h => h.1, fun k h => h.2, hk0.mono (fun i _ h => h.2.1), ⟨.inl h1, blk_lt (blk_put hgb 0 v1 rfl)⟩, fun k hk => ?_, h5, v1, blk_put hgb 0 v1 rfl, ?_⟩
  · rcases hk.1 with h | h | h
    · exact h0 k h
    · exact .inr (hS k h)
    · exact .inr (by omega)
  · exact Kd.R_mono (Kd.R_bound hr2) (fun k hk => ⟨hk.1, hk.2.2.1⟩)
def pentaglotlaw28_SatStops.f (k : Nat) (a0_0 : Int) (l0_1 : List (S52)) (a0_2 : Int) (a1 : Int) : Option Bool :=
  if pentaglotlaw28_awake.f k = some true then (pentaglotref28_Large.f k a0_0 l0_1 a0_2 60).bind fun b => if b = true then some true else if 8 < a0_0 then some true else
    (sat_All.seq k a0_0 l0_1 a0_2).bind fun xs => if xs.length ≤ 1000000 ∧ (xs.take a1.toNat).all (fun x => decide (pentaglotlaw28_same.f k x x = some true)) = true then some true else none
  else none
set_option maxHeartbeats 16000000 in
set_option maxRecDepth 100000 in
theorem pentaglotlaw28_SatStops.calls (k : Nat) (a0_0 : Int) (A0_1 : Option Addr) (c0_1 : Nat) (l0_1 : List (S52)) (a0_2 : Int) (a1 : Int) (r : Bool) (w : World) (hr0_1 : Kd.C k52 w A0_1 l0_1.length l0_1) (hc0_1 : l0_1.length ≤ c0_1) (h : pentaglotlaw28_SatStops.f k a0_0 l0_1 a0_2 a1 = some r) :
    Calls Try.prog 11 #[.agg #[.int .i64 a0_0, .slice A0_1 l0_1.length c0_1, .int .i64 a0_2], .int .i64 a1] w fun e w' => e = .returned (.bool r) ∧ Below w.heap.size w w' := by
  unfold pentaglotlaw28_SatStops.f at h
  by_cases haw : pentaglotlaw28_awake.f k = some true
  case neg => rw [if_neg haw] at h; cases h
  rw [if_pos haw] at h
  obtain ⟨b, hlg, h2⟩ := Option.bind_eq_some_iff.1 h
  clear h
  have hu24 := Try.underlying24
  have HG := Aside0.mk (Kd.C_F heap52 hr0_1)
  have HX0 := Aside0.mk ((AtC.new w a0_0 A0_1 c0_1 l0_1 a0_2).alloc (.cells #[.int .i64 a1] 3))
  have hnb : ((w.alloc (.cells #[.int .i64 a0_0, .slice A0_1 l0_1.length c0_1, .int .i64 a0_2] 24)).alloc (.cells #[.int .i64 a1] 3)).heap[w.heap.size + 1]? = some (.cells #[.int .i64 a1] 3 (0, 0)) := by
    have h := heap_alloc_new (w.alloc (.cells #[.int .i64 a0_0, .slice A0_1 l0_1.length c0_1, .int .i64 a0_2] 24)) (.cells #[.int .i64 a1] 3)
    rwa [World.size_alloc] at h
  have HN0 := Aside0.mk hnb
  clear hnb
  have a13 := fun (W : World) => pentaglotlaw28_awake.calls k true W haw
  have a14 := fun (W : World) (hW : AtC w W a0_0 A0_1 c0_1 l0_1 a0_2) => pentaglotref28_Large.calls k a0_0 A0_1 c0_1 l0_1 a0_2 60 b W (Kd.C_below hr0_1 hW.bel) hc0_1 hlg
  have HC := Aside0.mk hc0_1
  clear haw hlg hc0_1 hr0_1
  by_cases hb : b = true ∨ 8 < a0_0
  · obtain rfl : r = true := by
      rcases hb with hb | hb
      · rw [if_pos hb] at h2; exact (Option.some.inj h2).symm
      · cases b with
        | true => exact (Option.some.inj h2).symm
        | false => rw [if_neg (by decide), if_pos hb] at h2; exact (Option.some.inj h2).symm
    clear h2
    refine calls_of_wp_marks Try.func11 rfl ?_
    simp only [Try.ntmps11, List.size_toArray, List.length_cons, List.length_nil, Nat.reduceAdd, Nat.reduceSub, Array.replicate_succ, Array.replicate_zero, List.push_toArray, List.append_toArray, List.nil_append, List.cons_append]
    cases b with
    | true =>
      clear hb
      go_wp2_with (first | (go_at_call 13; refine (a13 _).mono ?_; rintro e w1 ⟨rfl, hb1⟩; have HX1 := Aside0.mk (HX0.out.step hb1); have y0 := HX1.out.c0; have y1 := HX1.out.c1; have y2 := HX1.out.c2; clear hb1 a13) | (go_at_call 14; refine (a14 _ HX1.out).mono ?_; rintro e w2 ⟨rfl, hb2⟩; have HX2 := Aside0.mk (HX1.out.step hb2); clear hb2 a14 y0 y1 y2))
      refine leavesM_nil (v := .bool true) (by simp [results, Try.results11, go_sem]) ⟨rfl, HX2.out.bel⟩
    | false =>
      have hb : 8 < a0_0 := by rcases hb with hb | hb; cases hb; exact hb
      go_wp2_with (first | (go_at_call 13; refine (a13 _).mono ?_; rintro e w1 ⟨rfl, hb1⟩; have HX1 := Aside0.mk (HX0.out.step hb1); have y0 := HX1.out.c0; have y1 := HX1.out.c1; have y2 := HX1.out.c2; clear hb1 a13) | (go_at_call 14; refine (a14 _ HX1.out).mono ?_; rintro e w2 ⟨rfl, hb2⟩; have HX2 := Aside0.mk (HX1.out.step hb2); clear hb2 a14 y0 y1 y2; have y0 := HX2.out.c0))
      refine leavesM_nil (v := .bool true) (by simp [results, Try.results11, go_sem]) ⟨rfl, HX2.out.bel⟩
  obtain rfl : b = false := by cases b with | true => exact absurd (.inl rfl) hb | false => rfl
  have hn8 : ¬ 8 < a0_0 := fun h => hb (.inr h)
  rw [if_neg (by decide), if_neg hn8] at h2
  obtain ⟨xs, hxs, h5⟩ := Option.bind_eq_some_iff.1 h2
  by_cases hq : xs.length ≤ 1000000 ∧ (xs.take a1.toNat).all (fun x => decide (pentaglotlaw28_same.f k x x = some true)) = true
  case neg => rw [if_neg hq] at h5; cases h5
  rw [if_pos hq] at h5
  obtain rfl := Option.some.inj h5
  obtain ⟨hlx, hsame⟩ := hq
  clear h2 h5 hb
  have HXS := Aside0.mk hxs
  have HLX := Aside0.mk hlx
  have HS := Aside0.mk (fun x hx => of_decide_eq_true (List.all_eq_true.1 hsame x hx))
  clear hxs hlx hsame
  refine calls_of_wp_marks Try.func11 rfl ?_
  simp only [Try.ntmps11, List.size_toArray, List.length_cons, List.length_nil, Nat.reduceAdd, Nat.reduceSub, Array.replicate_succ, Array.replicate_zero, List.push_toArray, List.append_toArray, List.nil_append, List.cons_append]
  go_wp2_with (first | (go_at_call 13; refine (a13 _).mono ?_; rintro e' w1 ⟨rfl, hb1⟩; have HX1 := Aside0.mk (HX0.out.step hb1); have HN1 := Aside0.mk (blk_below HN0.out hb1); have y0 := HX1.out.c0; have y1 := HX1.out.c1; have y2 := HX1.out.c2; clear hb1 a13) | (go_at_call 14; refine (a14 _ HX1.out).mono ?_; rintro e' w2 ⟨rfl, hb2⟩; have HX2 := Aside0.mk (HX1.out.step hb2); have HN2 := Aside0.mk (blk_below HN1.out hb2); clear hb2 a14 y0 y1 y2; have y0 := HX2.out.c0; have hz := (HX2.out.alloc (.cells #[.slice none 0 0] 43)).alloc (.cells #[.slice none 0 0] 43); have z0 := hz.c0; have z1 := hz.c1; have z2 := hz.c2; clear hz) | (go_at_call 26; refine (All_any a0_0 A0_1 c0_1 l0_1 a0_2 _).mono ?_; rintro e' w4 ⟨cb, rfl, hcb, hcc, hb4⟩; have HX4 := Aside0.mk (((HX2.out.alloc (.cells #[.slice none 0 0] 43)).alloc (.cells #[.slice none 0 0] 43)).step hb4); have HN4 := Aside0.mk (blk_below (blk_alloc (blk_alloc HN2.out (.cells #[.slice none 0 0] 43)) (.cells #[.slice none 0 0] 43)) hb4); have HCC := Aside0.mk hcc; have HS1 := Aside0.mk (blk_below (blk_alloc (heap_alloc_new w2 (.cells #[.slice none 0 0] 43)) (.cells #[.slice none 0 0] 43)) hb4); have HS2 := Aside0.mk (blk_below (show ((w2.alloc (.cells #[.slice none 0 0] 43)).alloc (.cells #[.slice none 0 0] 43)).heap[w2.heap.size + 1]? = some (.cells #[.slice none 0 0] 43 (0, 0)) from by have h := heap_alloc_new (w2.alloc (.cells #[.slice none 0 0] 43)) (.cells #[.slice none 0 0] 43); rwa [World.size_alloc] at h) hb4); have HCB := Aside0.mk hcb; clear hb4 hcc hcb z0 z1 z2 y0))
  have hw2 : w.heap.size + 1 < w2.heap.size := blk_lt HN2.out
  have hcb : w2.heap.size + 1 < cb := by have h := HCB.out; simp at h; omega
  have hw4 : cb < w4.heap.size := blk_lt HCC.out
  refine wp_rangeFunc_break (gf := 41) (lb := #[.pointer (some ⟨cb, 0, none⟩)]) (Rel := relB w.heap.size) (Z := fun k => k = cb ∨ k < w.heap.size) (w0 := w4) (xs := xs) rfl (enters_of Try.func41 (by kernel_rfl) rfl)
    (all1_iter k cb w.heap.size a0_0 a0_2 A0_1 c0_1 l0_1 w4 HCC.out (Kd.F_below HG.out HX4.out.bel) HC.out (by omega) xs HXS.out) (Below.refl _ _) (relB_put _)
    (fun Y pre W => Got2 w4 w2.heap.size w.heap.size Y pre W ∧ pre.length ≤ a1.toNat) (fun Y pre' W => ∃ pre x, pre' = pre ++ [x] ∧ Got2 w4 w2.heap.size w.heap.size Y pre W ∧ pre.length = a1.toNat)
    (fun _ _ _ _ h hk => ⟨h.1.keep (Nat.le_refl _) hk, h.2⟩) (fun _ _ _ _ ⟨pre, x, e, h, hl⟩ hk => ⟨pre, x, e, h.keep (Nat.le_refl _) hk, hl⟩)
    (fun k => k = w2.heap.size) ?Y0 ?hZ ⟨⟨rfl, fun k hk => .inl hk, KeepS.refl _ _, _, HS1.out, Kd.R_nil _ _ _ _ _⟩, Nat.zero_le _⟩ ?asg ?assign ?body ?endd
  case assign =>
    intro l v A K hK
    refine wpIn_region_of (r := some l) (by intro a w h; exact h) (by simp) ?_
    go_wp2
    exact hK
  case Y0 => rintro k rfl; exact ⟨by omega, fun h => h.elim (fun h => by omega) (fun h => by omega)⟩
  case hZ => exact fun k hk h => h.elim (fun h => by omega) (fun h => by omega)
  case body =>
    rintro l m Y pre x vx S A hpre ⟨⟨hy, hy0, hkw, vg, hgb, hR⟩, hpn⟩ hrel hl hlm hm hY hS
    have x0 : A.cell? ⟨w2.heap.size, 0, none⟩ = some vg := (blk_cell hgb 0).trans rfl
    have f0 := blk_frozen hgb 0
    have xn : A.cell? ⟨w.heap.size + 1, 0, none⟩ = some (.int .i64 a1) := keepS_at hkw HN4.out ⟨by omega, by omega⟩
    have hpl := hpre.length_le
    rw [List.length_append, List.length_singleton] at hpl
    have hpl2 : pre.length ≤ 1000000 := by have := HLX.out; omega
    have HP := Aside0.mk hpre
    have HGB := Aside0.mk hgb
    have HR := Aside0.mk hR
    have HKW := Aside0.mk hkw
    have HREL := Aside0.mk (show Kd.R Kd.bool 4 A w.heap.size S vx x from hrel)
    obtain ⟨Av, cv, rfl, _, _⟩ := Kd.R_reads hrel
    obtain ⟨Ag, cg, rfl, _, _⟩ := Kd.R_reads hR
    clear hpl hpre hgb hR hkw hrel
    refine wpIn_block ?_
    refine wpIn_seq ?_
    refine wpIn_seq ?_
    refine wpIn_region_of (r := some l) (by rintro a w ⟨Y', h1, h2, h3, h⟩; exact h) (by simp) ?_
    by_cases hbr : a1 ≤ (pre.length : Int)
    · go_wp2
      refine wpIn_cond_true rfl ?_
      refine wpIn_exit ?_
      refine ⟨Y, fun k hk => .inl hk, fun k hk => by have := (hY k hk).1; omega, KeepS.refl _ _, rfl, pre, x, rfl, ⟨hy, hy0, HKW.out, _, HGB.out, HR.out⟩, by omega⟩
    · have hpn2 : pre.length + 1 ≤ a1.toNat := by omega
      go_wp2
      refine wpIn_cond_false rfl ?_
      refine wpIn_skip ?_
      refine wpIn_region_of (r := some l) (by rintro a w ⟨Y', h1, h2, h3, h⟩; exact h) (by simp) ?_
      go_wp2_with ((with_reducible refine gate_builtin (b := .append) (xs := #[.tmp 28, .tmp 30]) rfl ?_); at_builtin; refine Kd.R_append (Kd.slice 4 Kd.bool) (w0 := A) w.heap.size rfl (.tmp 28) (.tmp 30) 43 25 (.slice none 0 0) 24 rfl Try.underlying43 info25 rfl (by decide) (by omega) (.slice Ag pre.length cg) pre x [.slice Av x.length cv] (fun k => Y k ∨ S k ∨ m ≤ k) S rfl rfl (Kd.M_row HREL.out) (fun k hk => ⟨.inr (.inl hk), fun e => (hS k hk).2.2.1 (HR.out.1 k e.symm)⟩) (fun k hk => .inr (.inr (by omega))) (Kd.R_mono HR.out (fun k hk => .inl hk)) (Below.refl _ _) (by omega) (by omega) ?_; intro v1 w1 ho hb hg hat; obtain ⟨Aw, cw, rfl, _, _⟩ := Kd.R_reads ho; rw [List.length_append, List.length_singleton] at ho; have HO1 := Aside0.mk ho; have HG1 := Aside0.mk hg; have f1 := blk_frozen (blk_grown HGB.out hg (Kd.R_ne HR.out HGB.out (by decide))) 0; have x1 : w1.cell? ⟨w2.heap.size, 0, none⟩ = some (.slice Ag pre.length cg) := (blk_cell (blk_grown HGB.out hg (Kd.R_ne HR.out HGB.out (by decide))) 0).trans rfl; clear ho hb hg hat)
      obtain ⟨Y', q1, q2, q3, q4⟩ := Got2.put (pre1 := pre ++ [x]) hy hy0 HKW.out HGB.out HR.out HG1.out HO1.out (by omega) (fun k hk => (hS k hk).1)
      exact ⟨Y', q1, q2, q3, q4, by rw [List.length_append, List.length_singleton]; exact hpn2⟩
  case endd =>
    rintro D Y W hD hend hK
    have hL : ∃ L, Got2 w4 w2.heap.size w.heap.size Y L W ∧ L = xs.take a1.toNat := by
      rcases hend with ⟨h1, h2⟩ | ⟨pre', hpre, pre, x, rfl, h1, h2⟩
      · exact ⟨xs, h1, (List.take_of_length_le h2).symm⟩
      · refine ⟨pre, h1, ?_⟩
        obtain ⟨t, rfl⟩ := hpre
        rw [← h2, List.append_assoc, List.take_left]
    obtain ⟨L, ⟨hy, hy0, hkw, vg, hgb, hR⟩, hLx⟩ := hL
    clear hend
    have HL := Aside0.mk hLx
    have HKW := Aside0.mk hkw
    have HR := Aside0.mk hR
    have HGB := Aside0.mk hgb
    have HK := Aside0.mk hK
    obtain ⟨Ag, cg, rfl, _, _⟩ := Kd.R_reads hR
    clear hLx hkw hR hgb hK
    go_wp2
    have hcW := HKW.out.blk HCC.out ⟨hw4, by omega⟩
    have hGW := Kd.F_step (Kd.F_below HG.out HX4.out.bel) (fun i (hi : i < w.heap.size) hlt => HKW.out.block i hlt ⟨by omega, by omega⟩)
    have hW4 : w4.heap.size ≤ W.heap.size := HKW.out.size
    have hs2 := HKW.out.blk HS2.out ⟨by omega, by omega⟩
    have hDW : D < W.heap.size := blk_lt HK.out
    refine wp_rangeFunc_iter1 (gf := 41) (lb := #[.pointer (some ⟨cb, 0, none⟩)]) (Rel := relB w.heap.size) (Z := fun k => k = cb ∨ k < w.heap.size) (w0 := W) (xs := xs) rfl (enters_of Try.func41 (by kernel_rfl) rfl)
      (all1_iter k cb w.heap.size a0_0 a0_2 A0_1 c0_1 l0_1 W hcW hGW HC.out (by omega) xs HXS.out) (Below.refl _ _) (relB_put _)
      (fun Y pre W1 => Got2 W (w2.heap.size + 1) w.heap.size Y pre W1) (fun _ _ _ _ => False)
      (fun _ _ _ _ h hk => h.keep (Nat.le_refl _) hk) (fun _ _ _ _ _ h _ => h)
      (fun k => k = w2.heap.size + 1) ?Y02 ?hZ2 ⟨rfl, fun k hk => .inl hk, KeepS.refl _ _, _, hs2, Kd.R_nil _ _ _ _ _⟩ ?asg2 ?assign2 ?body2 ?done2 (fun _ _ _ _ _ _ _ h _ => h.elim)
    case assign2 =>
      intro l v A K hK
      refine wpIn_region_of (r := some l) (by intro a w h; exact h) (by simp) ?_
      go_wp2
      exact hK
    case Y02 => rintro k rfl; exact ⟨by omega, fun h => h.elim (fun h => by omega) (fun h => by omega)⟩
    case hZ2 => exact fun k hk h => h.elim (fun h => by omega) (fun h => by omega)
    case body2 =>
      rintro l m Y2 pre x vx S A hpre ⟨hy2, hy20, hkw2, vg2, hgb2, hR2⟩ hrel hl hlm hm hY hS
      have x0 : A.cell? ⟨w2.heap.size + 1, 0, none⟩ = some vg2 := (blk_cell hgb2 0).trans rfl
      have f0 := blk_frozen hgb2 0
      have hpl := hpre.length_le
      rw [List.length_append, List.length_singleton] at hpl
      have hpl2 : pre.length ≤ 1000000 := by have := HLX.out; omega
      have HP := Aside0.mk hpre
      have HGB2 := Aside0.mk hgb2
      have HR2 := Aside0.mk hR2
      have HKW2 := Aside0.mk hkw2
      have HREL := Aside0.mk (show Kd.R Kd.bool 4 A w.heap.size S vx x from hrel)
      obtain ⟨Av, cv, rfl, _, _⟩ := Kd.R_reads hrel
      obtain ⟨Ag2, cg2, rfl, _, _⟩ := Kd.R_reads hR2
      clear hpl hpre hgb2 hR2 hkw2 hrel
      refine wpIn_block ?_
      refine wpIn_region_of (r := some l) (by rintro a w ⟨Y', h1, h2, h3, h⟩; exact h) (by simp) ?_
      go_wp2_with ((with_reducible refine gate_builtin (b := .append) (xs := #[.tmp 34, .tmp 36]) rfl ?_); at_builtin; refine Kd.R_append (Kd.slice 4 Kd.bool) (w0 := A) w.heap.size rfl (.tmp 34) (.tmp 36) 43 25 (.slice none 0 0) 24 rfl Try.underlying43 info25 rfl (by decide) (by omega) (.slice Ag2 pre.length cg2) pre x [.slice Av x.length cv] (fun k => Y2 k ∨ S k ∨ m ≤ k) S rfl rfl (Kd.M_row HREL.out) (fun k hk => ⟨.inr (.inl hk), fun e => (hS k hk).2.2.1 (HR2.out.1 k e.symm)⟩) (fun k hk => .inr (.inr (by omega))) (Kd.R_mono HR2.out (fun k hk => .inl hk)) (Below.refl _ _) (by omega) (by omega) ?_; intro v1 w1 ho hb hg hat; obtain ⟨Aw, cw, rfl, _, _⟩ := Kd.R_reads ho; rw [List.length_append, List.length_singleton] at ho; have HO1 := Aside0.mk ho; have HG1 := Aside0.mk hg; have f1 := blk_frozen (blk_grown HGB2.out hg (Kd.R_ne HR2.out HGB2.out (by decide))) 0; have x1 : w1.cell? ⟨w2.heap.size + 1, 0, none⟩ = some (.slice Ag2 pre.length cg2) := (blk_cell (blk_grown HGB2.out hg (Kd.R_ne HR2.out HGB2.out (by decide))) 0).trans rfl; clear ho hb hg hat)
      exact Got2.put (pre1 := pre ++ [x]) hy2 hy20 HKW2.out HGB2.out HR2.out HG1.out HO1.out (by omega) (fun k hk => (hS k hk).1)
    case done2 =>
      rintro D2 Y2 V hD2 ⟨hy2, hy20, hkw2, vg2, hgb2, hR2⟩ hK2
      have hlen : L.length ≤ xs.length := by rw [HL.out, List.length_take]; omega
      have hlen2 : L.length = xs.length ∨ (L.length : Int) = max a1 0 := by rw [HL.out, List.length_take]; omega
      -- what the rest reads
      have hb1 : ∀ i, Y i → i < W.heap.size ∧ i ≠ w2.heap.size + 1 → True := fun _ _ _ => trivial
      have hRV : Kd.R (Kd.slice 4 Kd.bool) 25 V w.heap.size Y (.slice Ag L.length cg) L := Kd.R_step HR.out (fun i hi hlt => hkw2.block i hlt ⟨hlt, by have := hy0 i hi; omega⟩)
      have x0 : V.cell? ⟨w2.heap.size, 0, none⟩ = some (.slice Ag L.length cg) := keepS_at hkw2 HGB.out ⟨by omega, by omega⟩
      have x1 : V.cell? ⟨w2.heap.size + 1, 0, none⟩ = some vg2 := (blk_cell hgb2 0).trans rfl
      have xn : V.cell? ⟨w.heap.size + 1, 0, none⟩ = some (.int .i64 a1) := keepS_at hkw2 (HKW.out.blk HN4.out ⟨by omega, by omega⟩) ⟨by omega, by omega⟩
      have hDV := hkw2.blk HK.out ⟨hDW, by omega⟩
      have hBV : Below w.heap.size w V := (HX4.out.bel.trans (HKW.out.below (by omega) (fun i hi => ⟨by omega, by omega⟩))).trans (hkw2.below (by omega) (fun i hi => ⟨by omega, by omega⟩))
      obtain ⟨Ag2, cg2, rfl, _, _⟩ := Kd.R_reads hR2
      have HRV := Aside0.mk hRV
      have HRV2 := Aside0.mk hR2
      have HDV := Aside0.mk hDV
      have HDV2 := Aside0.mk hK2
      have HBV := Aside0.mk hBV
      have HLE := Aside0.mk hlen2
      have X0 := Aside0.mk x0
      have X1 := Aside0.mk x1
      clear hRV hR2 hDV hK2 hBV hgb2 hkw2 hb1 hlen2
      go_upto_region 14 with (fail)
      have hgt : decide (xs.length < L.length) = false := decide_eq_false (by omega)
      go_cut [56] from 38 to 56 (fun v56 wx => v56 = .bool false ∧ wx = V)
      case first =>
        by_cases hee : L.length = xs.length
        · go_wp2
          go_meet
          exact ⟨rfl, rfl⟩
        · have hmx : (L.length : Int) = max a1 0 := HLE.out.resolve_left hee
          go_wp2
          all_goals go_meet
          all_goals exact ⟨by first | rfl | (simp; done) | (simp; omega), rfl⟩
      obtain ⟨rfl, rfl⟩ := hcut
      have hxl := HLX.out
      clear x0 x1 xn hgt
      go_wp2
      go_loopw [10] (fun v10 wr => ∃ q : Nat, q ≤ L.length ∧ v10 = .int .i64 (q : Int) ∧ Aside0 (Drawn0 wc wr)) (fun v10 _ => L.length - (intOf v10).toNat)
      case atStart => exact ⟨0, Nat.zero_le _, rfl, ⟨Drawn0.refl _⟩⟩
      case round =>
        obtain ⟨q, hq, rfl, HDR⟩ := hrel
        have hbz : Below wc.heap.size wc wr := HDR.out.below
        have x7 : wr.cell? ⟨w2.heap.size, 0, none⟩ = some (.slice Ag L.length cg) := by obtain ⟨⟨nd, rfl⟩⟩ := HDR.out; exact X0.out
        have x8 : wr.cell? ⟨w2.heap.size + 1, 0, none⟩ = some (.slice Ag2 xs.length cg2) := by obtain ⟨⟨nd, rfl⟩⟩ := HDR.out; exact X1.out
        have HR7 := Aside0.mk (Kd.R_below HRV.out hbz)
        have HW7 := Aside0.mk (Kd.R_below HRV2.out hbz)
        have HD7 := Aside0.mk (blk_below HDV.out hbz)
        have HD8 := Aside0.mk (blk_below HDV2.out hbz)
        have HB7 := Aside0.mk (HBV.out.trans (hbz.mono HBV.out.size))
        clear hbz
        by_cases hqt : q < L.length
        · have hq0 : (q : Int) < (L.length : Int) := by omega
          have hq1 : (q : Int) < (xs.length : Int) := by omega
          obtain ⟨_, _, hCg⟩ := Kd.R_reads' HR7.out
          obtain ⟨ad1, A1, c1, rfl, hx1, hc1, hC1⟩ := at_L6 hCg (q : Int) (by omega) (by omega)
          obtain ⟨_, _, hCw⟩ := Kd.R_reads' HW7.out
          obtain ⟨ad2, A2, c2, rfl, hx2, hc2, hC2⟩ := at_L6 hCw (q : Int) (by omega) (by omega)
          have hee : rd_L6 xs q = rd_L6 L q := by
            unfold rd_L6
            rw [Int.toNat_natCast, List.getD_eq_getElem?_getD, List.getD_eq_getElem?_getD, HL.out, List.getElem?_take_of_lt (by have h := hqt; rw [HL.out, List.length_take] at h; omega)]
          rw [hee] at hx2 hc2 hC2
          have hsm := HS.out (rd_L6 L q) (by
            rw [← HL.out]
            unfold rd_L6
            rw [Int.toNat_natCast, List.getD_eq_getElem?_getD, List.getElem?_eq_getElem hqt]
            exact List.getElem_mem _)
          have a24 := fun m => pentaglotlaw28_same.calls k A1 c1 (rd_L6 L q) A2 c2 (rd_L6 L q) true (wr.drewN m) (Kd.C_below hC1 (pw_below_drewN (Below.refl _ _) m)) hc1 (Kd.C_below hC2 (pw_below_drewN (Below.refl _ _) m)) hc2 hsm
          simp only [Int.toNat_natCast] at hx1 hx2
          clear hCg hC1 hC2 hsm hCw hee
          go_upto_region 19 with (fail)
          go_quiet ((go_at_call 24; exact Calls.quiet_of ((a24 _).mono (fun e w' ⟨he, hd⟩ => ⟨he, hd.out⟩))))
          go_wp2
          go_roundw
          case rel => exact ⟨q + 1, by omega, by go_num, ⟨HDR.out.step _⟩⟩
          case measure => simp [intOf]; omega
        · have hqe : ¬ (q : Int) < (L.length : Int) := by omega
          go_wp2
          exact leavesM_mark HD8.out (leavesM_mark (show (wr.putObj D2 (.deferred none)).heap[D]? = some (.deferred (some [])) from (World.putObj_heap_other (by omega)).trans HD7.out) (leavesM_nil (v := .bool true) (by simp [results, Try.results11, go_sem]) ⟨rfl, below_putObj (below_putObj HB7.out (by omega) _) (by omega) _⟩))

/-- THE ONE PURE STATEMENT of pentaglotlaw28_SatStops. -/
def pentaglotlaw28_SatStops.Pure : Prop := ∀ (p0 : S24) (p1 : Int), wf24 p0 → (Lit.int .i64 p1).wf = true → ∃ k, pentaglotlaw28_SatStops.f k p0.f0 p0.f1 p0.f2 p1 = some true

end Go.Proofs.Ytflknolnclnhfaa.P
