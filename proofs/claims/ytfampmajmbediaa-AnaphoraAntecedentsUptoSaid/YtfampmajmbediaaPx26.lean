-- Written by the session's own program wip/tools/xprint.py out of the translation, with the kit's print.py on a scratch copy; functions given by hand stand among them.
import Derived.Test.YtfampmajmbediaaPx0
import Derived.Test.YtfampmajmbediaaPx16
import Derived.Test.YtfampmajmbediaaPx23
import Derived.Test.YtfampmajmbediaaPx25
namespace Go.Proofs.Ytfampmajmbediaa.P
open Go.RowKit Go.Proofs.YtfampmajmbediaaW.PrintWords Go.Proofs.YtfampmajmbediaaW.PrintLast Go.Proofs.YtfampmajmbediaaW.PrintMore
attribute [local go_sem] max2_int min2_int max_two min_two max_three min_three max_four min_four   -- for this text's walks alone
set_option linter.unusedVariables false
set_option linter.unusedSimpArgs false

/-! ### pentaglotref46_Antecedent: function 16, by hand -/
-- leans on 28 31 39 40 52
def pentaglotref46_Antecedent.j0 : Nat → List (S27) → Int → Bool → Option (ByteArray × List Int × (List (S27)) × Bool)
 | 0, _, _, _ => none
 | k + 1, x0, x1, x16 => if x16 = true then (some ((⟨#[]⟩ : ByteArray), ([] : List Int), ([] : List (S27)), false)) else (if 0 ≤ (wrap64 (x1 - 1)) then (if (wrap64 (x1 - 1)) < (x0.length : Int) then ((pentaglotref39_Path.f k ((rd_T27 x0 (wrap64 (x1 - 1))).f0) ((rd_T27 x0 (wrap64 (x1 - 1))).f1) ((rd_T27 x0 (wrap64 (x1 - 1))).f2)).bind fun bt360 => (if bt360.2 = true then ((pentaglotref39_Subject.f k ((rd_T27 x0 (wrap64 (x1 - 1))).f0) ((rd_T27 x0 (wrap64 (x1 - 1))).f1) ((rd_T27 x0 (wrap64 (x1 - 1))).f2)).bind fun bt365 => ((pentaglotref46_Singular.f bt365.1 bt365.2.1 bt365.2.2).bind fun t373 => (if t373 = true then (some (bt365.1, bt365.2.1, bt365.2.2, true)) else ((pentaglotref46_Plural.f k bt365.1 bt365.2.1 bt365.2.2).bind fun t374 => (if t374 = true then (some (bt365.1, bt365.2.1, bt365.2.2, true)) else (some ((⟨#[]⟩ : ByteArray), ([] : List Int), ([] : List (S27)), false))))))) else (some ((⟨#[]⟩ : ByteArray), ([] : List Int), ([] : List (S27)), false)))) else (none)) else (none))
def pentaglotref46_Antecedent.f (k : Nat) (l0 : List (S27)) (a1 : Int) : Option (ByteArray × List Int × (List (S27)) × Bool) := if a1 < 1 then (pentaglotref46_Antecedent.j0 k l0 a1 true) else (pentaglotref46_Antecedent.j0 k l0 a1 (decide (a1 > (l0.length : Int))))
theorem pentaglotref46_Antecedent.mono_l : ∀ k, (∀ y0 y1 y2, LeO (pentaglotref46_Antecedent.j0 k y0 y1 y2) (pentaglotref46_Antecedent.j0 (k + 1) y0 y1 y2))
 | 0 => fun _ _ _ r h => by simp [pentaglotref46_Antecedent.j0] at h
 | k + 1 => by
  have ih0 := pentaglotref46_Antecedent.mono_l k
  ·intro y0 y1 y2
   unfold pentaglotref46_Antecedent.j0
   repeat' first
   | (with_reducible exact ih0 _ _ _)
   | (with_reducible exact pentaglotref39_Path.mono _ _ _ _)
   | (with_reducible exact pentaglotref39_Subject.mono _ _ _ _)
   | (with_reducible exact pentaglotref46_Plural.mono _ _ _ _)
   | (with_reducible exact LeO.refl _)
   | (with_reducible exact LeO.none _)
   | (with_reducible refine LeO.ite ?_ ?_)
   | (with_reducible refine LeO.bind ?_ (fun _ => ?_))
   | exact ih0 _ _ _
   | exact pentaglotref39_Path.mono _ _ _ _
   | exact pentaglotref39_Subject.mono _ _ _ _
   | exact pentaglotref46_Plural.mono _ _ _ _
   | exact LeO.none _
   | refine LeO.ite ?_ ?_
   | refine LeO.bind ?_ (fun _ => ?_)
theorem pentaglotref46_Antecedent.mono : ∀ a0 a1 k, LeO (pentaglotref46_Antecedent.f k a0 a1) (pentaglotref46_Antecedent.f (k + 1) a0 a1) := by
 intro a0 a1 k
 have ih0 := pentaglotref46_Antecedent.mono_l k
 unfold pentaglotref46_Antecedent.f
 repeat' first
   | (with_reducible exact ih0 _ _ _)
   | (with_reducible exact pentaglotref39_Path.mono _ _ _ _)
   | (with_reducible exact pentaglotref39_Subject.mono _ _ _ _)
   | (with_reducible exact pentaglotref46_Plural.mono _ _ _ _)
   | (with_reducible exact LeO.refl _)
   | (with_reducible exact LeO.none _)
   | (with_reducible refine LeO.ite ?_ ?_)
   | (with_reducible refine LeO.bind ?_ (fun _ => ?_))
   | exact ih0 _ _ _
   | exact pentaglotref39_Path.mono _ _ _ _
   | exact pentaglotref39_Subject.mono _ _ _ _
   | exact pentaglotref46_Plural.mono _ _ _ _
   | exact LeO.none _
   | refine LeO.ite ?_ ?_
   | refine LeO.bind ?_ (fun _ => ?_)
set_option maxHeartbeats 16000000 in
set_option maxRecDepth 100000 in
theorem pentaglotref46_Antecedent.calls (k : Nat) (P0_ : Nat → Prop) (A0 : Option Addr) (c0 : Nat) (l0 : List (S27)) (a1 : Int) (r1 : ByteArray) (r2 : List Int) (r3 : List (S27)) (r4 : Bool) (w : World) (hs0 : Kd.V k27 27 w w.heap.size (fun k_ => P0_ k_) (.slice A0 l0.length c0) l0) (h : pentaglotref46_Antecedent.f k l0 a1 = some (r1, r2, r3, r4)) :
    Calls Try.prog 16 #[.slice A0 l0.length c0, .int .i64 a1] w fun e w' => ∃ v1_ v2_ : Value, e = .returned (.tuple #[.agg #[.string r1, v1_, v2_], .bool r4]) ∧ Kd.V (Kd.int .i64) 3 w' w.heap.size (fun k_ => (P0_ k_ ∨ w.heap.size ≤ k_)) v1_ r2 ∧ Kd.V k27 27 w' w.heap.size (fun k_ => (P0_ k_ ∨ w.heap.size ≤ k_)) v2_ r3 ∧ Below w.heap.size w w' := by
  have hu27 := Try.underlying27
  have HBW := Aside0.mk (below_alloc (Below.refl w.heap.size w) (.cells #[.string (⟨#[]⟩ : ByteArray), .slice none 0 0, .slice none 0 0] 27))
  have HX1 := Aside0.mk (heap_alloc_new w (.cells #[.string (⟨#[]⟩ : ByteArray), .slice none 0 0, .slice none 0 0] 27))
  have hm : l0.length ≤ 9223372036854775807 := (Kd.V_reads' hs0).2.2.2.1
  unfold pentaglotref46_Antecedent.f at h
  have bad : ∀ k, pentaglotref46_Antecedent.j0 k l0 a1 true = some (r1, r2, r3, r4) → r1 = ⟨#[]⟩ ∧ r2 = [] ∧ r3 = [] ∧ r4 = false := by
    intro k h
    cases k with
    | zero => rw [pentaglotref46_Antecedent.j0] at h; cases h
    | succ k =>
      rw [pentaglotref46_Antecedent.j0, if_pos rfl] at h
      simp only [Option.some.injEq, Prod.mk.injEq] at h
      exact ⟨h.1.symm, h.2.1.symm, h.2.2.1.symm, h.2.2.2.symm⟩
  by_cases h1 : a1 < 1
  case pos =>
    rw [if_pos h1] at h
    obtain ⟨rfl, rfl, rfl, rfl⟩ := bad k h
    clear h bad hs0
    go_enter Try.func16, Try.ntmps16
    go_wp2
    refine bodyPost_ret (results_ct rfl _ _ w.heap.size 27 #[.string (⟨#[]⟩ : ByteArray), .slice none 0 0, .slice none 0 0] (0, 0) _ rfl HX1.out Try.underlying27 rfl (by kernel_rfl)) rfl ?_
    exact ⟨_, _, rfl, Kd.V_nil _ _ _ _ _, Kd.V_nil _ _ _ _ _, HBW.out⟩
  rw [if_neg h1] at h
  by_cases h2 : a1 > (l0.length : Int)
  case pos =>
    rw [decide_eq_true h2] at h
    obtain ⟨rfl, rfl, rfl, rfl⟩ := bad k h
    clear h bad hs0
    go_enter Try.func16, Try.ntmps16
    go_wp2
    refine bodyPost_ret (results_ct rfl _ _ w.heap.size 27 #[.string (⟨#[]⟩ : ByteArray), .slice none 0 0, .slice none 0 0] (0, 0) _ rfl HX1.out Try.underlying27 rfl (by kernel_rfl)) rfl ?_
    exact ⟨_, _, rfl, Kd.V_nil _ _ _ _ _, Kd.V_nil _ _ _ _ _, HBW.out⟩
  rw [decide_eq_false h2] at h
  cases k with
  | zero => rw [pentaglotref46_Antecedent.j0] at h; cases h
  | succ k =>
  rw [pentaglotref46_Antecedent.j0, if_neg (by decide)] at h
  obtain ⟨j, rfl⟩ : ∃ j : Nat, a1 = (j : Int) + 1 := ⟨(a1 - 1).toNat, by omega⟩
  have hj : j < l0.length := by omega
  have hw : wrap64 ((j : Int) + 1 - 1) = (j : Int) := by unfold wrap64; omega
  have hw2 : wrap64 (j : Int) = (j : Int) := by unfold wrap64; omega
  have hj0 : (0 : Int) ≤ (j : Int) := Int.natCast_nonneg _
  have hj1 : (j : Int) < (l0.length : Int) := by omega
  rw [hw, if_pos hj0, if_pos hj1] at h
  obtain ⟨ak, X1, e1, X2, e2, hA0, q1, q2, F1, F2, hcell⟩ := tree_at5 (Kd.F_bound (Kd.V_F hs0)) hj
  subst hA0
  obtain ⟨x, hx⟩ : ∃ x, rd_T27 l0 (j : Int) = x := ⟨_, rfl⟩
  rw [hx] at h q1 q2 F1 F2 hcell
  obtain ⟨bt, hpath, h⟩ := Option.bind_eq_some_iff.1 h
  have HC := Aside0.mk (fun (V : World) (hb : Below w.heap.size w V) => hcell V (fun i _ hlt => hb.block i hlt))
  have HP := Aside0.mk (fun (V : World) (hb : Below w.heap.size w V) => pentaglotref39_Path.calls k x.f0 X1 e1 x.f1 X2 e2 x.f2 bt.1 bt.2 V (Kd.F_now (Kd.F_below F1 hb)) q1 (Kd.F_now (Kd.F_below F2 hb)) q2 hpath)
  obtain ⟨y0, y1, y2⟩ := HC.out _ HBW.out
  by_cases hok : bt.2 = true
  case neg =>
    rw [if_neg hok] at h
    simp only [Option.some.injEq, Prod.mk.injEq] at h
    obtain ⟨rfl, rfl, rfl, rfl⟩ := h
    have hok' : bt.2 = false := by simpa using hok
    rw [hok'] at HP
    clear bad hs0 hok hok' F1 F2 hcell hx hpath
    go_enter Try.func16, Try.ntmps16
    go_wp2_with ((go_at_call 28; refine (HP.out _ HBW.out).mono ?_; rintro e w2 ⟨v0, rfl, _, hb2⟩; have HB2 := Aside0.mk (HBW.out.trans (hb2.mono HBW.out.size)); have HX2 := Aside0.mk (blk_below HX1.out hb2); obtain ⟨z0, z1, z2⟩ := HC.out _ HB2.out; have x0 : w2.cell? ⟨w.heap.size, 0, none⟩ = some (.string (⟨#[]⟩ : ByteArray)) := (blk_cell HX2.out 0).trans rfl; have x1 : w2.cell? ⟨w.heap.size, 1, none⟩ = some (.slice none 0 0) := (blk_cell HX2.out 1).trans rfl; have x2 : w2.cell? ⟨w.heap.size, 2, none⟩ = some (.slice none 0 0) := (blk_cell HX2.out 2).trans rfl; have fz0 := blk_frozen HX2.out 0; have fz1 := blk_frozen HX2.out 1; have fz2 := blk_frozen HX2.out 2; clear hb2))
    refine bodyPost_ret (results_ct rfl _ _ w.heap.size 27 #[.string (⟨#[]⟩ : ByteArray), .slice none 0 0, .slice none 0 0] (0, 0) _ rfl (by refine blk_put (cs := #[.string (⟨#[]⟩ : ByteArray), .slice none 0 0, .slice none 0 0]) ?_ 2 _ rfl; refine blk_put (cs := #[.string (⟨#[]⟩ : ByteArray), .slice none 0 0, .slice none 0 0]) ?_ 1 _ rfl; refine blk_put (cs := #[.string (⟨#[]⟩ : ByteArray), .slice none 0 0, .slice none 0 0]) ?_ 0 _ rfl; exact HX2.out) Try.underlying27 rfl (by kernel_rfl)) rfl ?_
    exact ⟨_, _, rfl, Kd.V_nil _ _ _ _ _, Kd.V_nil _ _ _ _ _, (below_set (below_set (below_set HB2.out (Nat.le_refl _)) (Nat.le_refl _)) (Nat.le_refl _))⟩
  rw [if_pos hok] at h
  rw [hok] at HP
  obtain ⟨v, hsub, h⟩ := Option.bind_eq_some_iff.1 h
  obtain ⟨sg, hsg, h⟩ := Option.bind_eq_some_iff.1 h
  have HS := Aside0.mk (fun (V : World) (hb : Below w.heap.size w V) => pentaglotref39_Subject.calls k x.f0 (fun k_ => P0_ k_ ∧ k_ < w.heap.size) X1 e1 x.f1 (fun k_ => P0_ k_ ∧ k_ < w.heap.size) X2 e2 x.f2 v.1 v.2.1 v.2.2 V (Kd.V_mk q1 (Kd.F_below F1 hb)) (Kd.V_mk q2 (Kd.F_below F2 hb)) hsub)
  clear bad hs0 hok F1 F2 hcell hx hpath hsub
  cases sg with
  | true =>
    rw [if_pos rfl] at h
    simp only [Option.some.injEq, Prod.mk.injEq] at h
    obtain ⟨rfl, rfl, rfl, rfl⟩ := h
    go_enter Try.func16, Try.ntmps16
    go_wp2_with (first | (go_at_call 28; refine (HP.out _ HBW.out).mono ?_; rintro e w2 ⟨v0, rfl, _, hb2⟩; have HB2 := Aside0.mk (HBW.out.trans (hb2.mono HBW.out.size)); have HX2 := Aside0.mk (blk_below HX1.out hb2); obtain ⟨z0, z1, z2⟩ := HC.out _ HB2.out; have hb2s := Aside0.mk hb2.size; clear hb2) | (go_at_call 31; refine (HS.out _ HB2.out).mono ?_; rintro e w3 ⟨v1, v2, rfl, ⟨B1, d1, rfl, m1, g1⟩, ⟨B2, d2, rfl, m2, g2⟩, hb3⟩; have HB3 := Aside0.mk (HB2.out.trans (hb3.mono HB2.out.size)); have HX3 := Aside0.mk (blk_below HX2.out hb3); have hba := below_alloc (Below.refl w3.heap.size w3) (.cells #[.string v.1, .slice B1 v.2.1.length d1, .slice B2 v.2.2.length d2] 27); have HBA := Aside0.mk hba; have HB3' := Aside0.mk (HB3.out.trans (hba.mono HB3.out.size)); have HX3' := Aside0.mk (blk_below HX3.out hba); have HY := Aside0.mk (heap_alloc_new w3 (.cells #[.string v.1, .slice B1 v.2.1.length d1, .slice B2 v.2.2.length d2] 27)); have HG1 := Aside0.mk (Kd.F_below g1 hba); have HG2 := Aside0.mk (Kd.F_below g2 hba); have HO := Aside0.mk (show w.heap.size < w2.heap.size from Nat.lt_of_lt_of_le (by simp) hb2s.out); clear g1 g2 hb3 hba) | (go_at_call 39; refine (pentaglotref46_Singular.calls v.1 B1 d1 v.2.1 B2 d2 v.2.2 _ _ (Kd.F_now HG1.out) m1 (Kd.F_now HG2.out) m2 hsg).mono ?_; rintro e w4 ⟨rfl, hb⟩; have HBw4 := Aside0.mk (HB3'.out.trans (hb.mono HB3'.out.size)); have HXw4 := Aside0.mk (blk_below HX3'.out hb); have HYw4 := Aside0.mk (blk_below HY.out hb); have HG1w4 := Aside0.mk (Kd.F_below HG1.out hb); have HG2w4 := Aside0.mk (Kd.F_below HG2.out hb); have b0 : (w4).cell? ⟨w3.heap.size, 0, none⟩ = some (.string v.1) := (blk_cell HYw4.out 0).trans rfl; have b1 : (w4).cell? ⟨w3.heap.size, 1, none⟩ = some (.slice B1 v.2.1.length d1) := (blk_cell HYw4.out 1).trans rfl; have b2 : (w4).cell? ⟨w3.heap.size, 2, none⟩ = some (.slice B2 v.2.2.length d2) := (blk_cell HYw4.out 2).trans rfl; have x0 : w4.cell? ⟨w.heap.size, 0, none⟩ = some (.string (⟨#[]⟩ : ByteArray)) := (blk_cell HXw4.out 0).trans rfl; have x1 : w4.cell? ⟨w.heap.size, 1, none⟩ = some (.slice none 0 0) := (blk_cell HXw4.out 1).trans rfl; have x2 : w4.cell? ⟨w.heap.size, 2, none⟩ = some (.slice none 0 0) := (blk_cell HXw4.out 2).trans rfl; have fz0 := blk_frozen HXw4.out 0; have fz1 := blk_frozen HXw4.out 1; have fz2 := blk_frozen HXw4.out 2; clear hb))
    have hlt := HO.out
    have hne : ∀ k_, ((P0_ k_ ∧ k_ < w.heap.size) ∨ (P0_ k_ ∧ k_ < w.heap.size)) ∨ w2.heap.size ≤ k_ → k_ ≠ w.heap.size := by
      rintro k_ ((⟨_, h⟩ | ⟨_, h⟩) | h) <;> omega
    have hmo : ∀ k_, ((P0_ k_ ∧ k_ < w.heap.size) ∨ (P0_ k_ ∧ k_ < w.heap.size)) ∨ w2.heap.size ≤ k_ → P0_ k_ ∨ w.heap.size ≤ k_ := by
      rintro k_ ((⟨h, _⟩ | ⟨h, _⟩) | h)
      · exact .inl h
      · exact .inl h
      · exact .inr (by omega)
    refine bodyPost_ret (results_ct rfl _ _ w.heap.size 27 #[.string v.1, .slice B1 v.2.1.length d1, .slice B2 v.2.2.length d2] (0, 0) _ rfl (by refine blk_put (cs := #[.string v.1, .slice B1 v.2.1.length d1, .slice none 0 0]) ?_ 2 _ rfl; refine blk_put (cs := #[.string v.1, .slice none 0 0, .slice none 0 0]) ?_ 1 _ rfl; refine blk_put (cs := #[.string (⟨#[]⟩ : ByteArray), .slice none 0 0, .slice none 0 0]) ?_ 0 _ rfl; exact HXw4.out) Try.underlying27 rfl (by kernel_rfl)) rfl ?_
    exact ⟨_, _, rfl, ⟨B1, d1, rfl, m1, (Kd.F_mono (Kd.F_far (p := ⟨w.heap.size, 2, none⟩) (Kd.F_far (p := ⟨w.heap.size, 1, none⟩) (Kd.F_far (p := ⟨w.heap.size, 0, none⟩) HG1w4.out (fun k_ hk => hne k_ hk) _) (fun k_ hk => hne k_ hk) _) (fun k_ hk => hne k_ hk) _) hmo)⟩, ⟨B2, d2, rfl, m2, (Kd.F_mono (Kd.F_far (p := ⟨w.heap.size, 2, none⟩) (Kd.F_far (p := ⟨w.heap.size, 1, none⟩) (Kd.F_far (p := ⟨w.heap.size, 0, none⟩) HG2w4.out (fun k_ hk => hne k_ hk) _) (fun k_ hk => hne k_ hk) _) (fun k_ hk => hne k_ hk) _) hmo)⟩, (below_set (below_set (below_set HBw4.out (Nat.le_refl _)) (Nat.le_refl _)) (Nat.le_refl _))⟩
  | false =>
    rw [if_neg (by decide)] at h
    obtain ⟨pl, hpl, h⟩ := Option.bind_eq_some_iff.1 h
    cases pl with
    | true =>
      rw [if_pos rfl] at h
      simp only [Option.some.injEq, Prod.mk.injEq] at h
      obtain ⟨rfl, rfl, rfl, rfl⟩ := h
      go_enter Try.func16, Try.ntmps16
      go_wp2_with (first | (go_at_call 28; refine (HP.out _ HBW.out).mono ?_; rintro e w2 ⟨v0, rfl, _, hb2⟩; have HB2 := Aside0.mk (HBW.out.trans (hb2.mono HBW.out.size)); have HX2 := Aside0.mk (blk_below HX1.out hb2); obtain ⟨z0, z1, z2⟩ := HC.out _ HB2.out; have hb2s := Aside0.mk hb2.size; clear hb2) | (go_at_call 31; refine (HS.out _ HB2.out).mono ?_; rintro e w3 ⟨v1, v2, rfl, ⟨B1, d1, rfl, m1, g1⟩, ⟨B2, d2, rfl, m2, g2⟩, hb3⟩; have HB3 := Aside0.mk (HB2.out.trans (hb3.mono HB2.out.size)); have HX3 := Aside0.mk (blk_below HX2.out hb3); have hba := below_alloc (Below.refl w3.heap.size w3) (.cells #[.string v.1, .slice B1 v.2.1.length d1, .slice B2 v.2.2.length d2] 27); have HBA := Aside0.mk hba; have HB3' := Aside0.mk (HB3.out.trans (hba.mono HB3.out.size)); have HX3' := Aside0.mk (blk_below HX3.out hba); have HY := Aside0.mk (heap_alloc_new w3 (.cells #[.string v.1, .slice B1 v.2.1.length d1, .slice B2 v.2.2.length d2] 27)); have HG1 := Aside0.mk (Kd.F_below g1 hba); have HG2 := Aside0.mk (Kd.F_below g2 hba); have HO := Aside0.mk (show w.heap.size < w2.heap.size from Nat.lt_of_lt_of_le (by simp) hb2s.out); clear g1 g2 hb3 hba) | (go_at_call 39; refine (pentaglotref46_Singular.calls v.1 B1 d1 v.2.1 B2 d2 v.2.2 _ _ (Kd.F_now HG1.out) m1 (Kd.F_now HG2.out) m2 hsg).mono ?_; rintro e w4 ⟨rfl, hb⟩; have HBw4 := Aside0.mk (HB3'.out.trans (hb.mono HB3'.out.size)); have HXw4 := Aside0.mk (blk_below HX3'.out hb); have HYw4 := Aside0.mk (blk_below HY.out hb); have HG1w4 := Aside0.mk (Kd.F_below HG1.out hb); have HG2w4 := Aside0.mk (Kd.F_below HG2.out hb); have b0 : (w4).cell? ⟨w3.heap.size, 0, none⟩ = some (.string v.1) := (blk_cell HYw4.out 0).trans rfl; have b1 : (w4).cell? ⟨w3.heap.size, 1, none⟩ = some (.slice B1 v.2.1.length d1) := (blk_cell HYw4.out 1).trans rfl; have b2 : (w4).cell? ⟨w3.heap.size, 2, none⟩ = some (.slice B2 v.2.2.length d2) := (blk_cell HYw4.out 2).trans rfl; have x0 : w4.cell? ⟨w.heap.size, 0, none⟩ = some (.string (⟨#[]⟩ : ByteArray)) := (blk_cell HXw4.out 0).trans rfl; have x1 : w4.cell? ⟨w.heap.size, 1, none⟩ = some (.slice none 0 0) := (blk_cell HXw4.out 1).trans rfl; have x2 : w4.cell? ⟨w.heap.size, 2, none⟩ = some (.slice none 0 0) := (blk_cell HXw4.out 2).trans rfl; have fz0 := blk_frozen HXw4.out 0; have fz1 := blk_frozen HXw4.out 1; have fz2 := blk_frozen HXw4.out 2; clear hb) | (go_at_call 40; refine (pentaglotref46_Plural.calls k v.1 B1 d1 v.2.1 B2 d2 v.2.2 _ _ (Kd.F_now HG1w4.out) m1 (Kd.F_now HG2w4.out) m2 hpl).mono ?_; rintro e w5 ⟨rfl, hb⟩; have HBw5 := Aside0.mk (HBw4.out.trans (hb.mono HBw4.out.size)); have HXw5 := Aside0.mk (blk_below HXw4.out hb); have HYw5 := Aside0.mk (blk_below HYw4.out hb); have HG1w5 := Aside0.mk (Kd.F_below HG1w4.out hb); have HG2w5 := Aside0.mk (Kd.F_below HG2w4.out hb); have b0 : (w5).cell? ⟨w3.heap.size, 0, none⟩ = some (.string v.1) := (blk_cell HYw5.out 0).trans rfl; have b1 : (w5).cell? ⟨w3.heap.size, 1, none⟩ = some (.slice B1 v.2.1.length d1) := (blk_cell HYw5.out 1).trans rfl; have b2 : (w5).cell? ⟨w3.heap.size, 2, none⟩ = some (.slice B2 v.2.2.length d2) := (blk_cell HYw5.out 2).trans rfl; have x0 : w5.cell? ⟨w.heap.size, 0, none⟩ = some (.string (⟨#[]⟩ : ByteArray)) := (blk_cell HXw5.out 0).trans rfl; have x1 : w5.cell? ⟨w.heap.size, 1, none⟩ = some (.slice none 0 0) := (blk_cell HXw5.out 1).trans rfl; have x2 : w5.cell? ⟨w.heap.size, 2, none⟩ = some (.slice none 0 0) := (blk_cell HXw5.out 2).trans rfl; have fz0 := blk_frozen HXw5.out 0; have fz1 := blk_frozen HXw5.out 1; have fz2 := blk_frozen HXw5.out 2; clear hb))
      have hlt := HO.out
      have hne : ∀ k_, ((P0_ k_ ∧ k_ < w.heap.size) ∨ (P0_ k_ ∧ k_ < w.heap.size)) ∨ w2.heap.size ≤ k_ → k_ ≠ w.heap.size := by
        rintro k_ ((⟨_, h⟩ | ⟨_, h⟩) | h) <;> omega
      have hmo : ∀ k_, ((P0_ k_ ∧ k_ < w.heap.size) ∨ (P0_ k_ ∧ k_ < w.heap.size)) ∨ w2.heap.size ≤ k_ → P0_ k_ ∨ w.heap.size ≤ k_ := by
        rintro k_ ((⟨h, _⟩ | ⟨h, _⟩) | h)
        · exact .inl h
        · exact .inl h
        · exact .inr (by omega)
      refine bodyPost_ret (results_ct rfl _ _ w.heap.size 27 #[.string v.1, .slice B1 v.2.1.length d1, .slice B2 v.2.2.length d2] (0, 0) _ rfl (by refine blk_put (cs := #[.string v.1, .slice B1 v.2.1.length d1, .slice none 0 0]) ?_ 2 _ rfl; refine blk_put (cs := #[.string v.1, .slice none 0 0, .slice none 0 0]) ?_ 1 _ rfl; refine blk_put (cs := #[.string (⟨#[]⟩ : ByteArray), .slice none 0 0, .slice none 0 0]) ?_ 0 _ rfl; exact HXw5.out) Try.underlying27 rfl (by kernel_rfl)) rfl ?_
      exact ⟨_, _, rfl, ⟨B1, d1, rfl, m1, (Kd.F_mono (Kd.F_far (p := ⟨w.heap.size, 2, none⟩) (Kd.F_far (p := ⟨w.heap.size, 1, none⟩) (Kd.F_far (p := ⟨w.heap.size, 0, none⟩) HG1w5.out (fun k_ hk => hne k_ hk) _) (fun k_ hk => hne k_ hk) _) (fun k_ hk => hne k_ hk) _) hmo)⟩, ⟨B2, d2, rfl, m2, (Kd.F_mono (Kd.F_far (p := ⟨w.heap.size, 2, none⟩) (Kd.F_far (p := ⟨w.heap.size, 1, none⟩) (Kd.F_far (p := ⟨w.heap.size, 0, none⟩) HG2w5.out (fun k_ hk => hne k_ hk) _) (fun k_ hk => hne k_ hk) _) (fun k_ hk => hne k_ hk) _) hmo)⟩, (below_set (below_set (below_set HBw5.out (Nat.le_refl _)) (Nat.le_refl _)) (Nat.le_refl _))⟩
    | false =>
      rw [if_neg (by decide)] at h
      simp only [Option.some.injEq, Prod.mk.injEq] at h
      obtain ⟨rfl, rfl, rfl, rfl⟩ := h
      go_enter Try.func16, Try.ntmps16
      go_wp2_with (first | (go_at_call 28; refine (HP.out _ HBW.out).mono ?_; rintro e w2 ⟨v0, rfl, _, hb2⟩; have HB2 := Aside0.mk (HBW.out.trans (hb2.mono HBW.out.size)); have HX2 := Aside0.mk (blk_below HX1.out hb2); obtain ⟨z0, z1, z2⟩ := HC.out _ HB2.out; have hb2s := Aside0.mk hb2.size; clear hb2) | (go_at_call 31; refine (HS.out _ HB2.out).mono ?_; rintro e w3 ⟨v1, v2, rfl, ⟨B1, d1, rfl, m1, g1⟩, ⟨B2, d2, rfl, m2, g2⟩, hb3⟩; have HB3 := Aside0.mk (HB2.out.trans (hb3.mono HB2.out.size)); have HX3 := Aside0.mk (blk_below HX2.out hb3); have hba := below_alloc (Below.refl w3.heap.size w3) (.cells #[.string v.1, .slice B1 v.2.1.length d1, .slice B2 v.2.2.length d2] 27); have HBA := Aside0.mk hba; have HB3' := Aside0.mk (HB3.out.trans (hba.mono HB3.out.size)); have HX3' := Aside0.mk (blk_below HX3.out hba); have HY := Aside0.mk (heap_alloc_new w3 (.cells #[.string v.1, .slice B1 v.2.1.length d1, .slice B2 v.2.2.length d2] 27)); have HG1 := Aside0.mk (Kd.F_below g1 hba); have HG2 := Aside0.mk (Kd.F_below g2 hba); have HO := Aside0.mk (show w.heap.size < w2.heap.size from Nat.lt_of_lt_of_le (by simp) hb2s.out); clear g1 g2 hb3 hba) | (go_at_call 39; refine (pentaglotref46_Singular.calls v.1 B1 d1 v.2.1 B2 d2 v.2.2 _ _ (Kd.F_now HG1.out) m1 (Kd.F_now HG2.out) m2 hsg).mono ?_; rintro e w4 ⟨rfl, hb⟩; have HBw4 := Aside0.mk (HB3'.out.trans (hb.mono HB3'.out.size)); have HXw4 := Aside0.mk (blk_below HX3'.out hb); have HYw4 := Aside0.mk (blk_below HY.out hb); have HG1w4 := Aside0.mk (Kd.F_below HG1.out hb); have HG2w4 := Aside0.mk (Kd.F_below HG2.out hb); have b0 : (w4).cell? ⟨w3.heap.size, 0, none⟩ = some (.string v.1) := (blk_cell HYw4.out 0).trans rfl; have b1 : (w4).cell? ⟨w3.heap.size, 1, none⟩ = some (.slice B1 v.2.1.length d1) := (blk_cell HYw4.out 1).trans rfl; have b2 : (w4).cell? ⟨w3.heap.size, 2, none⟩ = some (.slice B2 v.2.2.length d2) := (blk_cell HYw4.out 2).trans rfl; have x0 : w4.cell? ⟨w.heap.size, 0, none⟩ = some (.string (⟨#[]⟩ : ByteArray)) := (blk_cell HXw4.out 0).trans rfl; have x1 : w4.cell? ⟨w.heap.size, 1, none⟩ = some (.slice none 0 0) := (blk_cell HXw4.out 1).trans rfl; have x2 : w4.cell? ⟨w.heap.size, 2, none⟩ = some (.slice none 0 0) := (blk_cell HXw4.out 2).trans rfl; have fz0 := blk_frozen HXw4.out 0; have fz1 := blk_frozen HXw4.out 1; have fz2 := blk_frozen HXw4.out 2; clear hb) | (go_at_call 40; refine (pentaglotref46_Plural.calls k v.1 B1 d1 v.2.1 B2 d2 v.2.2 _ _ (Kd.F_now HG1w4.out) m1 (Kd.F_now HG2w4.out) m2 hpl).mono ?_; rintro e w5 ⟨rfl, hb⟩; have HBw5 := Aside0.mk (HBw4.out.trans (hb.mono HBw4.out.size)); have HXw5 := Aside0.mk (blk_below HXw4.out hb); have HYw5 := Aside0.mk (blk_below HYw4.out hb); have HG1w5 := Aside0.mk (Kd.F_below HG1w4.out hb); have HG2w5 := Aside0.mk (Kd.F_below HG2w4.out hb); have b0 : (w5).cell? ⟨w3.heap.size, 0, none⟩ = some (.string v.1) := (blk_cell HYw5.out 0).trans rfl; have b1 : (w5).cell? ⟨w3.heap.size, 1, none⟩ = some (.slice B1 v.2.1.length d1) := (blk_cell HYw5.out 1).trans rfl; have b2 : (w5).cell? ⟨w3.heap.size, 2, none⟩ = some (.slice B2 v.2.2.length d2) := (blk_cell HYw5.out 2).trans rfl; have x0 : w5.cell? ⟨w.heap.size, 0, none⟩ = some (.string (⟨#[]⟩ : ByteArray)) := (blk_cell HXw5.out 0).trans rfl; have x1 : w5.cell? ⟨w.heap.size, 1, none⟩ = some (.slice none 0 0) := (blk_cell HXw5.out 1).trans rfl; have x2 : w5.cell? ⟨w.heap.size, 2, none⟩ = some (.slice none 0 0) := (blk_cell HXw5.out 2).trans rfl; have fz0 := blk_frozen HXw5.out 0; have fz1 := blk_frozen HXw5.out 1; have fz2 := blk_frozen HXw5.out 2; clear hb))
      refine bodyPost_ret (results_ct rfl _ _ w.heap.size 27 #[.string (⟨#[]⟩ : ByteArray), .slice none 0 0, .slice none 0 0] (0, 0) _ rfl (by refine blk_put (cs := #[.string (⟨#[]⟩ : ByteArray), .slice none 0 0, .slice none 0 0]) ?_ 2 _ rfl; refine blk_put (cs := #[.string (⟨#[]⟩ : ByteArray), .slice none 0 0, .slice none 0 0]) ?_ 1 _ rfl; refine blk_put (cs := #[.string (⟨#[]⟩ : ByteArray), .slice none 0 0, .slice none 0 0]) ?_ 0 _ rfl; exact HXw5.out) Try.underlying27 rfl (by kernel_rfl)) rfl ?_
      exact ⟨_, _, rfl, Kd.V_nil _ _ _ _ _, Kd.V_nil _ _ _ _ _, (below_set (below_set (below_set HBw5.out (Nat.le_refl _)) (Nat.le_refl _)) (Nat.le_refl _))⟩

end Go.Proofs.Ytfampmajmbediaa.P
