-- Written by the session's own program wip/tools/xprint.py out of the translation, with the kit's print.py on a scratch copy; functions given by hand stand among them.
import Derived.Test.YtolpckflofjfhaaDoorPx0
import Derived.Test.YtolpckflofjfhaaDoorPx1
import Derived.Test.YtolpckflofjfhaaDoorPx6
import Derived.Test.YtolpckflofjfhaaDoorPx7
import Derived.Test.YtolpckflofjfhaaDoorPx8
import Derived.Test.YtolpckflofjfhaaDoorPx9
import Derived.Test.YtolpckflofjfhaaDoorPx10
import Derived.Test.YtolpckflofjfhaaDoorPx11
namespace Go.Proofs.YtolpckflofjfhaaDoor.P
open Go.RowKit Go.Proofs.YtolpckflofjfhaaDoorW.PrintWords Go.Proofs.YtolpckflofjfhaaDoorW.PrintLast Go.Proofs.YtolpckflofjfhaaDoorW.PrintMore
attribute [local go_sem] max2_int min2_int max_two min_two max_three min_three max_four min_four   -- for this text's walks alone
set_option linter.unusedVariables false
set_option linter.unusedSimpArgs false

/-! ### evaluate_At: function 14, by hand -/
-- leans on 38 39 40
def evaluate_At.f (k : Nat) (ds : List S73) (ts : List Int) (id : Int) (fs : List S62) (a0 : Int) (a1 : ByteArray) (l2 : List S92) (a3 : Int) (a4 : Int) (l5 : List S32) (co m : Int) : Option (Bool × Int) :=
 (loadG k ds ts id fs (⟨a0, a1, l2, a3, a4, l5⟩ : S32)).bind fun e => if e = 1 then some (false, 1) else if ts.length < 4398046511104 then (if insideB ts id co m = true then (if e = 0 then (truthG ds ts id fs k (⟨a0, a1, l2, a3, a4, l5⟩ : S32) [] co m).bind fun r => some (r, 0) else some (false, e)) else some (false, 1)) else none
theorem loadG_mono (ds : List S73) (ts : List Int) (id : Int) (fs : List S62) (t : S32) (k : Nat) : LeO (loadG k ds ts id fs t) (loadG (k + 1) ds ts id fs t) :=
 LeO.bind (LeO.refl _) (fun _ => LeO.ite (LeO.bind (formula_Valid.mono _ _ _ _ _ _ _ _) (fun _ => LeO.ite (LeO.bind (evaluate_work.mono _ _ _ _ _ _ _ _ _ _) (fun _ => LeO.refl _)) (LeO.refl _))) (LeO.refl _))
theorem evaluate_At.mono (ds : List S73) (ts : List Int) (id : Int) (fs : List S62) (a0 : Int) (a1 : ByteArray) (l2 : List S92) (a3 : Int) (a4 : Int) (l5 : List S32) (co m : Int) (k : Nat) : LeO (evaluate_At.f k ds ts id fs a0 a1 l2 a3 a4 l5 co m) (evaluate_At.f (k + 1) ds ts id fs a0 a1 l2 a3 a4 l5 co m) :=
 LeO.bind (loadG_mono _ _ _ _ _ _) (fun _ => LeO.ite (LeO.refl _) (LeO.ite (LeO.ite (LeO.ite (LeO.bind (truthG_mono _ _ _ _ _ _ _ _ _) (fun _ => LeO.refl _)) (LeO.refl _)) (LeO.refl _)) (LeO.refl _)))
set_option maxHeartbeats 16000000 in
set_option maxRecDepth 100000 in
theorem evaluate_At.calls (k : Nat) (A0 : Option Addr) (c0 : Nat) (ds : List S73) (A1 : Option Addr) (c1 : Nat) (ts : List Int) (id : Int) (A3 : Option Addr) (c3 : Nat) (fs : List S62) (a0 : Int) (a1 : ByteArray) (A2 : Option Addr) (c2 : Nat) (l2 : List S92) (a3 : Int) (a4 : Int) (A5 : Option Addr) (c5 : Nat) (l5 : List S32) (co m : Int) (r1 : Bool) (r2 : Int) (w : World) (hr0 : Kd.C k73 w A0 ds.length ds) (hc0 : ds.length ≤ c0) (hr1 : Kd.C (Kd.int .i64) w A1 ts.length ts) (hc1 : ts.length ≤ c1) (hr3 : Kd.C k62 w A3 fs.length fs) (hc3 : fs.length ≤ c3) (hr2 : Kd.C k92 w A2 l2.length l2) (hc2 : l2.length ≤ c2) (hr5 : Kd.C k32 w A5 l5.length l5) (hc5 : l5.length ≤ c5) (h : evaluate_At.f k ds ts id fs a0 a1 l2 a3 a4 l5 co m = some (r1, r2)) (htb : Tb w) :
  Calls Tryd.prog 14 #[.agg #[.slice A0 ds.length c0, .slice A1 ts.length c1, .int .i64 id, .slice A3 fs.length c3], .agg #[.int .i64 a0, .string a1, .slice A2 l2.length c2, .int .i64 a3, .int .i64 a4, .slice A5 l5.length c5], .int .i64 co, .int .i64 m] w fun e w' => e = .returned (.tuple #[.bool r1, .int .i64 r2]) ∧ Below w.heap.size w w' := by
 have hu25 := Tryd.underlying25
 have hu28 := Tryd.underlying28
 have hu32 := Tryd.underlying32
 have hu84 := Tryd.underlying84
 have HR0 := Aside0.mk hr0
 have HR1 := Aside0.mk hr1
 have HR2 := Aside0.mk hr2
 have HR3 := Aside0.mk hr3
 have HR5 := Aside0.mk hr5
 have HTB := Aside0.mk htb
 have HL := Aside0.mk (And.intro hc0 (And.intro hc1 (And.intro hc2 hc5)))
 clear hr0 hr1 hr2 hr3 hr5 hc0 hc1 hc2 hc3 hc5 htb
 have HB0 := Aside0.mk (Below.refl w.heap.size w)
 have T1 : True := trivial
 have T2 : True := trivial
 have T3 : True := trivial
 have T4 : True := trivial
 have T5 : True := trivial
 have T6 : True := trivial
 have T7 : True := trivial
 have T8 : True := trivial
 unfold evaluate_At.f at h
 obtain ⟨e, he, h⟩ := Option.bind_eq_some_iff.1 h
 have HLD := Aside0.mk he
 clear he
 by_cases h1 : e = 1
 ·subst h1
  rw [if_pos rfl] at h
  simp only [Option.some.injEq, Prod.mk.injEq] at h
  obtain ⟨rfl, rfl⟩ := h
  go_enter Tryd.func14, Tryd.ntmps14
  go_wp2_with (first
    | (clear T1; (with_reducible refine gate_dst (N := 4) rfl ?_); refine box_event ?hg (N := 4) ?hd (cs := #[.slice A0 ds.length c0, .slice A1 ts.length c1, .int .i64 id, .slice A3 fs.length c3]) (t := 28) ?hr ?_; (case hd => rfl); (case hg => rfl); (case hr => first | (go_simp; done) | (go_simp; rfl)); intro g1 hg w1 hbox hb; have HB1 := Aside0.mk (below_step HB0.out hb); have BW1 := Aside0.mk hbox; clear hb hbox hg HB0)
    | (clear T2; (with_reducible refine gate_dst (N := 5) rfl ?_); refine box_event ?hg (N := 5) ?hd (cs := #[.int .i64 a0, .string a1, .slice A2 l2.length c2, .int .i64 a3, .int .i64 a4, .slice A5 l5.length c5]) (t := 32) ?hr ?_; (case hd => rfl); (case hg => rfl); (case hr => first | (go_simp; done) | (go_simp; rfl)); intro g2 hg w2 hbox hb; have HB2 := Aside0.mk (below_step HB1.out hb); have BW2 := Aside0.mk (blk_below BW1.out hb); have BF2 := Aside0.mk hbox; clear hb hbox hg HB1 BW1; have x0 : w2.cell? ⟨g1, 0, none⟩ = some (.slice A0 ds.length c0) := (blk_cell BW2.out 0).trans rfl; have x1 : w2.cell? ⟨g1, 1, none⟩ = some (.slice A1 ts.length c1) := (blk_cell BW2.out 1).trans rfl; have x2 : w2.cell? ⟨g1, 2, none⟩ = some (.int .i64 id) := (blk_cell BW2.out 2).trans rfl; have x3 : w2.cell? ⟨g1, 3, none⟩ = some (.slice A3 fs.length c3) := (blk_cell BW2.out 3).trans rfl; have y0 : w2.cell? ⟨g2, 0, none⟩ = some (.int .i64 a0) := (blk_cell BF2.out 0).trans rfl; have y1 : w2.cell? ⟨g2, 1, none⟩ = some (.string a1) := (blk_cell BF2.out 1).trans rfl; have y2 : w2.cell? ⟨g2, 2, none⟩ = some (.slice A2 l2.length c2) := (blk_cell BF2.out 2).trans rfl; have y3 : w2.cell? ⟨g2, 3, none⟩ = some (.int .i64 a3) := (blk_cell BF2.out 3).trans rfl; have y4 : w2.cell? ⟨g2, 4, none⟩ = some (.int .i64 a4) := (blk_cell BF2.out 4).trans rfl; have y5 : w2.cell? ⟨g2, 5, none⟩ = some (.slice A5 l5.length c5) := (blk_cell BF2.out 5).trans rfl)
    | (clear T3; go_at_call 38; refine (load_any k A0 c0 ds A1 c1 ts id A3 c3 fs (⟨a0, a1, l2, a3, a4, l5⟩ : S32) A2 c2 A5 c5 1 _ (Kd.C_below HR0.out HB2.out) HL.out.1 (Kd.C_below HR1.out HB2.out) HL.out.2.1 (Kd.C_below HR3.out HB2.out) (Kd.C_below HR2.out HB2.out) HL.out.2.2.1 (Kd.C_below HR5.out HB2.out) HL.out.2.2.2 HLD.out).mono ?_; rintro e w3 ⟨hcase, hb⟩; obtain ⟨_, rfl⟩ := hcase.resolve_right (fun h => h.1 rfl); have HB3 := Aside0.mk (below_step HB2.out hb); have BF3 := Aside0.mk (blk_below BF2.out hb); clear hb HB2 hcase; have y'0 : w3.cell? ⟨g2, 0, none⟩ = some (.int .i64 a0) := (blk_cell BF3.out 0).trans rfl; have y'1 : w3.cell? ⟨g2, 1, none⟩ = some (.string a1) := (blk_cell BF3.out 1).trans rfl; have y'2 : w3.cell? ⟨g2, 2, none⟩ = some (.slice A2 l2.length c2) := (blk_cell BF3.out 2).trans rfl; have y'3 : w3.cell? ⟨g2, 3, none⟩ = some (.int .i64 a3) := (blk_cell BF3.out 3).trans rfl; have y'4 : w3.cell? ⟨g2, 4, none⟩ = some (.int .i64 a4) := (blk_cell BF3.out 4).trans rfl; have y'5 : w3.cell? ⟨g2, 5, none⟩ = some (.slice A5 l5.length c5) := (blk_cell BF3.out 5).trans rfl))
  go_ret2
  exact ⟨rfl, HB3.out⟩
 ·rw [if_neg h1] at h
  have HNE := Aside0.mk h1
  by_cases hl : ts.length < 4398046511104
  case neg => rw [if_neg hl] at h; cases h
  rw [if_pos hl] at h
  have HTL := Aside0.mk hl
  clear hl h1
  by_cases hi : insideB ts id co m = true
  ·have HIN := Aside0.mk hi
   rw [if_pos hi] at h
   clear hi
   by_cases h0 : e = 0
   ·subst h0
    rw [if_pos rfl] at h
    obtain ⟨r, hr, h⟩ := Option.bind_eq_some_iff.1 h
    simp only [Option.some.injEq, Prod.mk.injEq] at h
    obtain ⟨rfl, rfl⟩ := h
    have HTR := Aside0.mk hr
    clear hr
    go_enter Tryd.func14, Tryd.ntmps14
    go_wp2_with (first
      | (clear T1; (with_reducible refine gate_dst (N := 4) rfl ?_); refine box_event ?hg (N := 4) ?hd (cs := #[.slice A0 ds.length c0, .slice A1 ts.length c1, .int .i64 id, .slice A3 fs.length c3]) (t := 28) ?hr ?_; (case hd => rfl); (case hg => rfl); (case hr => first | (go_simp; done) | (go_simp; rfl)); intro g1 hg w1 hbox hb; have HB1 := Aside0.mk (below_step HB0.out hb); have BW1 := Aside0.mk hbox; clear hb hbox hg HB0)
      | (clear T2; (with_reducible refine gate_dst (N := 5) rfl ?_); refine box_event ?hg (N := 5) ?hd (cs := #[.int .i64 a0, .string a1, .slice A2 l2.length c2, .int .i64 a3, .int .i64 a4, .slice A5 l5.length c5]) (t := 32) ?hr ?_; (case hd => rfl); (case hg => rfl); (case hr => first | (go_simp; done) | (go_simp; rfl)); intro g2 hg w2 hbox hb; have HB2 := Aside0.mk (below_step HB1.out hb); have BW2 := Aside0.mk (blk_below BW1.out hb); have BF2 := Aside0.mk hbox; clear hb hbox hg HB1 BW1; have x0 : w2.cell? ⟨g1, 0, none⟩ = some (.slice A0 ds.length c0) := (blk_cell BW2.out 0).trans rfl; have x1 : w2.cell? ⟨g1, 1, none⟩ = some (.slice A1 ts.length c1) := (blk_cell BW2.out 1).trans rfl; have x2 : w2.cell? ⟨g1, 2, none⟩ = some (.int .i64 id) := (blk_cell BW2.out 2).trans rfl; have x3 : w2.cell? ⟨g1, 3, none⟩ = some (.slice A3 fs.length c3) := (blk_cell BW2.out 3).trans rfl; have y0 : w2.cell? ⟨g2, 0, none⟩ = some (.int .i64 a0) := (blk_cell BF2.out 0).trans rfl; have y1 : w2.cell? ⟨g2, 1, none⟩ = some (.string a1) := (blk_cell BF2.out 1).trans rfl; have y2 : w2.cell? ⟨g2, 2, none⟩ = some (.slice A2 l2.length c2) := (blk_cell BF2.out 2).trans rfl; have y3 : w2.cell? ⟨g2, 3, none⟩ = some (.int .i64 a3) := (blk_cell BF2.out 3).trans rfl; have y4 : w2.cell? ⟨g2, 4, none⟩ = some (.int .i64 a4) := (blk_cell BF2.out 4).trans rfl; have y5 : w2.cell? ⟨g2, 5, none⟩ = some (.slice A5 l5.length c5) := (blk_cell BF2.out 5).trans rfl)
      | (clear T3; go_at_call 38; refine (load_any k A0 c0 ds A1 c1 ts id A3 c3 fs (⟨a0, a1, l2, a3, a4, l5⟩ : S32) A2 c2 A5 c5 0 _ (Kd.C_below HR0.out HB2.out) HL.out.1 (Kd.C_below HR1.out HB2.out) HL.out.2.1 (Kd.C_below HR3.out HB2.out) (Kd.C_below HR2.out HB2.out) HL.out.2.2.1 (Kd.C_below HR5.out HB2.out) HL.out.2.2.2 HLD.out).mono ?_; rintro e w3 ⟨hcase, hb⟩; obtain ⟨_, b, rfl, hgb, hmd⟩ := hcase.resolve_left (fun h => HNE.out h.1); have HB3 := Aside0.mk (below_step HB2.out hb); have BF3 := Aside0.mk (blk_below BF2.out hb); have HMD := Aside0.mk hmd; clear hb HB2 hcase hgb hmd; have y'0 : w3.cell? ⟨g2, 0, none⟩ = some (.int .i64 a0) := (blk_cell BF3.out 0).trans rfl; have y'1 : w3.cell? ⟨g2, 1, none⟩ = some (.string a1) := (blk_cell BF3.out 1).trans rfl; have y'2 : w3.cell? ⟨g2, 2, none⟩ = some (.slice A2 l2.length c2) := (blk_cell BF3.out 2).trans rfl; have y'3 : w3.cell? ⟨g2, 3, none⟩ = some (.int .i64 a3) := (blk_cell BF3.out 3).trans rfl; have y'4 : w3.cell? ⟨g2, 4, none⟩ = some (.int .i64 a4) := (blk_cell BF3.out 4).trans rfl; have y'5 : w3.cell? ⟨g2, 5, none⟩ = some (.slice A5 l5.length c5) := (blk_cell BF3.out 5).trans rfl)
      | (clear T4; go_at_call 39; refine (inside_any b ds ts id fs co m _ HMD.out HTL.out).mono ?_; rintro e w4 ⟨rfl, rfl⟩; rw [HIN.out])
      | (clear T5; go_at_call 40; refine (truth_any ds ts id fs k b (⟨a0, a1, l2, a3, a4, l5⟩ : S32) A2 c2 A5 c5 [] none 0 co m r _ HMD.out (tb_on HTB.out HB3.out) (Kd.C_below HR2.out HB3.out) HL.out.2.2.1 (Kd.C_below HR5.out HB3.out) HL.out.2.2.2 (C_nil _) (Nat.le_refl _) HTR.out).mono ?_; rintro e w5 ⟨rfl, hb⟩; have HB5 := Aside0.mk (below_step HB3.out hb); clear hb))
    go_ret2
    exact ⟨rfl, HB5.out⟩
   ·rw [if_neg h0] at h
    simp only [Option.some.injEq, Prod.mk.injEq] at h
    obtain ⟨rfl, rfl⟩ := h
    have d0 : (e == 0) = false := beq_eq_false_iff_ne.mpr h0
    have d1 : (e != 0) = true := bne_iff_ne.mpr h0
    clear h0
    go_enter Tryd.func14, Tryd.ntmps14
    go_wp2_with (first
      | (clear T1; (with_reducible refine gate_dst (N := 4) rfl ?_); refine box_event ?hg (N := 4) ?hd (cs := #[.slice A0 ds.length c0, .slice A1 ts.length c1, .int .i64 id, .slice A3 fs.length c3]) (t := 28) ?hr ?_; (case hd => rfl); (case hg => rfl); (case hr => first | (go_simp; done) | (go_simp; rfl)); intro g1 hg w1 hbox hb; have HB1 := Aside0.mk (below_step HB0.out hb); have BW1 := Aside0.mk hbox; clear hb hbox hg HB0)
      | (clear T2; (with_reducible refine gate_dst (N := 5) rfl ?_); refine box_event ?hg (N := 5) ?hd (cs := #[.int .i64 a0, .string a1, .slice A2 l2.length c2, .int .i64 a3, .int .i64 a4, .slice A5 l5.length c5]) (t := 32) ?hr ?_; (case hd => rfl); (case hg => rfl); (case hr => first | (go_simp; done) | (go_simp; rfl)); intro g2 hg w2 hbox hb; have HB2 := Aside0.mk (below_step HB1.out hb); have BW2 := Aside0.mk (blk_below BW1.out hb); have BF2 := Aside0.mk hbox; clear hb hbox hg HB1 BW1; have x0 : w2.cell? ⟨g1, 0, none⟩ = some (.slice A0 ds.length c0) := (blk_cell BW2.out 0).trans rfl; have x1 : w2.cell? ⟨g1, 1, none⟩ = some (.slice A1 ts.length c1) := (blk_cell BW2.out 1).trans rfl; have x2 : w2.cell? ⟨g1, 2, none⟩ = some (.int .i64 id) := (blk_cell BW2.out 2).trans rfl; have x3 : w2.cell? ⟨g1, 3, none⟩ = some (.slice A3 fs.length c3) := (blk_cell BW2.out 3).trans rfl; have y0 : w2.cell? ⟨g2, 0, none⟩ = some (.int .i64 a0) := (blk_cell BF2.out 0).trans rfl; have y1 : w2.cell? ⟨g2, 1, none⟩ = some (.string a1) := (blk_cell BF2.out 1).trans rfl; have y2 : w2.cell? ⟨g2, 2, none⟩ = some (.slice A2 l2.length c2) := (blk_cell BF2.out 2).trans rfl; have y3 : w2.cell? ⟨g2, 3, none⟩ = some (.int .i64 a3) := (blk_cell BF2.out 3).trans rfl; have y4 : w2.cell? ⟨g2, 4, none⟩ = some (.int .i64 a4) := (blk_cell BF2.out 4).trans rfl; have y5 : w2.cell? ⟨g2, 5, none⟩ = some (.slice A5 l5.length c5) := (blk_cell BF2.out 5).trans rfl)
      | (clear T3; go_at_call 38; refine (load_any k A0 c0 ds A1 c1 ts id A3 c3 fs (⟨a0, a1, l2, a3, a4, l5⟩ : S32) A2 c2 A5 c5 e _ (Kd.C_below HR0.out HB2.out) HL.out.1 (Kd.C_below HR1.out HB2.out) HL.out.2.1 (Kd.C_below HR3.out HB2.out) (Kd.C_below HR2.out HB2.out) HL.out.2.2.1 (Kd.C_below HR5.out HB2.out) HL.out.2.2.2 HLD.out).mono ?_; rintro e w3 ⟨hcase, hb⟩; obtain ⟨_, b, rfl, hgb, hmd⟩ := hcase.resolve_left (fun h => HNE.out h.1); have HB3 := Aside0.mk (below_step HB2.out hb); have BF3 := Aside0.mk (blk_below BF2.out hb); have HMD := Aside0.mk hmd; clear hb HB2 hcase hgb hmd; have y'0 : w3.cell? ⟨g2, 0, none⟩ = some (.int .i64 a0) := (blk_cell BF3.out 0).trans rfl; have y'1 : w3.cell? ⟨g2, 1, none⟩ = some (.string a1) := (blk_cell BF3.out 1).trans rfl; have y'2 : w3.cell? ⟨g2, 2, none⟩ = some (.slice A2 l2.length c2) := (blk_cell BF3.out 2).trans rfl; have y'3 : w3.cell? ⟨g2, 3, none⟩ = some (.int .i64 a3) := (blk_cell BF3.out 3).trans rfl; have y'4 : w3.cell? ⟨g2, 4, none⟩ = some (.int .i64 a4) := (blk_cell BF3.out 4).trans rfl; have y'5 : w3.cell? ⟨g2, 5, none⟩ = some (.slice A5 l5.length c5) := (blk_cell BF3.out 5).trans rfl)
      | (clear T4; go_at_call 39; refine (inside_any b ds ts id fs co m _ HMD.out HTL.out).mono ?_; rintro e w4 ⟨rfl, rfl⟩; rw [HIN.out]))
    go_ret2
    exact ⟨rfl, HB3.out⟩
  ·rw [if_neg hi] at h
   simp only [Option.some.injEq, Prod.mk.injEq] at h
   obtain ⟨rfl, rfl⟩ := h
   have HIN := Aside0.mk (Bool.eq_false_iff.mpr hi)
   clear hi
   go_enter Tryd.func14, Tryd.ntmps14
   go_wp2_with (first
     | (clear T1; (with_reducible refine gate_dst (N := 4) rfl ?_); refine box_event ?hg (N := 4) ?hd (cs := #[.slice A0 ds.length c0, .slice A1 ts.length c1, .int .i64 id, .slice A3 fs.length c3]) (t := 28) ?hr ?_; (case hd => rfl); (case hg => rfl); (case hr => first | (go_simp; done) | (go_simp; rfl)); intro g1 hg w1 hbox hb; have HB1 := Aside0.mk (below_step HB0.out hb); have BW1 := Aside0.mk hbox; clear hb hbox hg HB0)
     | (clear T2; (with_reducible refine gate_dst (N := 5) rfl ?_); refine box_event ?hg (N := 5) ?hd (cs := #[.int .i64 a0, .string a1, .slice A2 l2.length c2, .int .i64 a3, .int .i64 a4, .slice A5 l5.length c5]) (t := 32) ?hr ?_; (case hd => rfl); (case hg => rfl); (case hr => first | (go_simp; done) | (go_simp; rfl)); intro g2 hg w2 hbox hb; have HB2 := Aside0.mk (below_step HB1.out hb); have BW2 := Aside0.mk (blk_below BW1.out hb); have BF2 := Aside0.mk hbox; clear hb hbox hg HB1 BW1; have x0 : w2.cell? ⟨g1, 0, none⟩ = some (.slice A0 ds.length c0) := (blk_cell BW2.out 0).trans rfl; have x1 : w2.cell? ⟨g1, 1, none⟩ = some (.slice A1 ts.length c1) := (blk_cell BW2.out 1).trans rfl; have x2 : w2.cell? ⟨g1, 2, none⟩ = some (.int .i64 id) := (blk_cell BW2.out 2).trans rfl; have x3 : w2.cell? ⟨g1, 3, none⟩ = some (.slice A3 fs.length c3) := (blk_cell BW2.out 3).trans rfl; have y0 : w2.cell? ⟨g2, 0, none⟩ = some (.int .i64 a0) := (blk_cell BF2.out 0).trans rfl; have y1 : w2.cell? ⟨g2, 1, none⟩ = some (.string a1) := (blk_cell BF2.out 1).trans rfl; have y2 : w2.cell? ⟨g2, 2, none⟩ = some (.slice A2 l2.length c2) := (blk_cell BF2.out 2).trans rfl; have y3 : w2.cell? ⟨g2, 3, none⟩ = some (.int .i64 a3) := (blk_cell BF2.out 3).trans rfl; have y4 : w2.cell? ⟨g2, 4, none⟩ = some (.int .i64 a4) := (blk_cell BF2.out 4).trans rfl; have y5 : w2.cell? ⟨g2, 5, none⟩ = some (.slice A5 l5.length c5) := (blk_cell BF2.out 5).trans rfl)
     | (clear T3; go_at_call 38; refine (load_any k A0 c0 ds A1 c1 ts id A3 c3 fs (⟨a0, a1, l2, a3, a4, l5⟩ : S32) A2 c2 A5 c5 e _ (Kd.C_below HR0.out HB2.out) HL.out.1 (Kd.C_below HR1.out HB2.out) HL.out.2.1 (Kd.C_below HR3.out HB2.out) (Kd.C_below HR2.out HB2.out) HL.out.2.2.1 (Kd.C_below HR5.out HB2.out) HL.out.2.2.2 HLD.out).mono ?_; rintro e w3 ⟨hcase, hb⟩; obtain ⟨_, b, rfl, hgb, hmd⟩ := hcase.resolve_left (fun h => HNE.out h.1); have HB3 := Aside0.mk (below_step HB2.out hb); have BF3 := Aside0.mk (blk_below BF2.out hb); have HMD := Aside0.mk hmd; clear hb HB2 hcase hgb hmd; have y'0 : w3.cell? ⟨g2, 0, none⟩ = some (.int .i64 a0) := (blk_cell BF3.out 0).trans rfl; have y'1 : w3.cell? ⟨g2, 1, none⟩ = some (.string a1) := (blk_cell BF3.out 1).trans rfl; have y'2 : w3.cell? ⟨g2, 2, none⟩ = some (.slice A2 l2.length c2) := (blk_cell BF3.out 2).trans rfl; have y'3 : w3.cell? ⟨g2, 3, none⟩ = some (.int .i64 a3) := (blk_cell BF3.out 3).trans rfl; have y'4 : w3.cell? ⟨g2, 4, none⟩ = some (.int .i64 a4) := (blk_cell BF3.out 4).trans rfl; have y'5 : w3.cell? ⟨g2, 5, none⟩ = some (.slice A5 l5.length c5) := (blk_cell BF3.out 5).trans rfl)
     | (clear T4; go_at_call 39; refine (inside_any b ds ts id fs co m _ HMD.out HTL.out).mono ?_; rintro e w4 ⟨rfl, rfl⟩; rw [HIN.out]))
   go_ret2
   exact ⟨rfl, HB3.out⟩

-- NOT PRINTED: function 43 (evaluate_True_1)

/-! ### evaluate_True: function 18, by hand -/
-- leans on 14 38 42 40
def evaluate_True.f (k : Nat) (ds : List S73) (ts : List Int) (id : Int) (fs : List S62) (a0 : Int) (a1 : ByteArray) (l2 : List S92) (a3 : Int) (a4 : Int) (l5 : List S32) : Option (Bool × Int) :=
 (loadG k ds ts id fs (⟨a0, a1, l2, a3, a4, l5⟩ : S32)).bind fun e => if e = 0 then (if ts.length < 4398046511104 then (someL true (fun i => truthG ds ts id fs k (⟨a0, a1, l2, a3, a4, l5⟩ : S32) [] 0 i) (2 * ts.length + 1) 0).bind fun r => some (r, 0) else none) else some (false, e)
theorem evaluate_True.mono (ds : List S73) (ts : List Int) (id : Int) (fs : List S62) (a0 : Int) (a1 : ByteArray) (l2 : List S92) (a3 : Int) (a4 : Int) (l5 : List S32) (k : Nat) : LeO (evaluate_True.f k ds ts id fs a0 a1 l2 a3 a4 l5) (evaluate_True.f (k + 1) ds ts id fs a0 a1 l2 a3 a4 l5) :=
 LeO.bind (loadG_mono _ _ _ _ _ _) (fun _ => LeO.ite (LeO.ite (LeO.bind (someL_le (fun _ => truthG_mono _ _ _ _ _ _ _ _ _) _ _) (fun _ => LeO.refl _)) (LeO.refl _)) (LeO.refl _))
set_option maxHeartbeats 8000000 in
set_option maxRecDepth 100000 in
theorem moment_any (k : Nat) (ds : List S73) (ts : List Int) (id : Int) (fs : List S62) (a0 : Int) (a1 : ByteArray) (A2 : Option Addr) (c2 : Nat) (l2 : List S92) (a3 : Int) (a4 : Int) (A5 : Option Addr) (c5 : Nat) (l5 : List S32) (b g2 g6 : Nat) (i : Int) (r : Bool) (w : World) (hmd : Md w b ds ts id fs) (htb : Tb w) (hr2 : Kd.C k92 w A2 l2.length l2) (hc2 : l2.length ≤ c2) (hr5 : Kd.C k32 w A5 l5.length l5) (hc5 : l5.length ≤ c5)
  (h6 : w.heap[g6]? = some (.cells #[.pointer (some ⟨b, 0, none⟩)] 76 (0, 0))) (h2 : w.heap[g2]? = some (.cells #[.int .i64 a0, .string a1, .slice A2 l2.length c2, .int .i64 a3, .int .i64 a4, .slice A5 l5.length c5] 32 (0, 0))) (h : truthG ds ts id fs k (⟨a0, a1, l2, a3, a4, l5⟩ : S32) [] 0 i = some r) :
  Calls Tryd.prog 43 #[.int .i64 i, .pointer (some ⟨g6, 0, none⟩), .pointer (some ⟨g2, 0, none⟩)] w fun e w' => e = .returned (.bool r) ∧ Below w.heap.size w w' := by
 have hu32 := Tryd.underlying32
 have x0 : w.cell? ⟨g6, 0, none⟩ = some (.pointer (some ⟨b, 0, none⟩)) := (blk_cell h6 0).trans rfl
 have y0 : w.cell? ⟨g2, 0, none⟩ = some (.int .i64 a0) := (blk_cell h2 0).trans rfl
 have y1 : w.cell? ⟨g2, 1, none⟩ = some (.string a1) := (blk_cell h2 1).trans rfl
 have y2 : w.cell? ⟨g2, 2, none⟩ = some (.slice A2 l2.length c2) := (blk_cell h2 2).trans rfl
 have y3 : w.cell? ⟨g2, 3, none⟩ = some (.int .i64 a3) := (blk_cell h2 3).trans rfl
 have y4 : w.cell? ⟨g2, 4, none⟩ = some (.int .i64 a4) := (blk_cell h2 4).trans rfl
 have y5 : w.cell? ⟨g2, 5, none⟩ = some (.slice A5 l5.length c5) := (blk_cell h2 5).trans rfl
 have HC := Aside0.mk (truth_any ds ts id fs k b (⟨a0, a1, l2, a3, a4, l5⟩ : S32) A2 c2 A5 c5 [] none 0 0 i r w hmd htb hr2 hc2 hr5 hc5 (C_nil _) (Nat.le_refl _) h)
 clear hmd htb hr2 hc2 hr5 hc5 h6 h2 h
 go_enter Tryd.func43, Tryd.ntmps43
 go_wp2_with (go_at_call 40; refine HC.out.mono ?_; rintro e w1 ⟨rfl, hb⟩; have HB := Aside0.mk hb; clear hb)
 go_ret
 exact ⟨rfl, HB.out⟩
set_option maxHeartbeats 16000000 in
set_option maxRecDepth 100000 in
theorem evaluate_True.calls (k : Nat) (A0 : Option Addr) (c0 : Nat) (ds : List S73) (A1 : Option Addr) (c1 : Nat) (ts : List Int) (id : Int) (A3 : Option Addr) (c3 : Nat) (fs : List S62) (a0 : Int) (a1 : ByteArray) (A2 : Option Addr) (c2 : Nat) (l2 : List S92) (a3 : Int) (a4 : Int) (A5 : Option Addr) (c5 : Nat) (l5 : List S32) (r1 : Bool) (r2 : Int) (w : World) (hr0 : Kd.C k73 w A0 ds.length ds) (hc0 : ds.length ≤ c0) (hr1 : Kd.C (Kd.int .i64) w A1 ts.length ts) (hc1 : ts.length ≤ c1) (hr3 : Kd.C k62 w A3 fs.length fs) (hc3 : fs.length ≤ c3) (hr2 : Kd.C k92 w A2 l2.length l2) (hc2 : l2.length ≤ c2) (hr5 : Kd.C k32 w A5 l5.length l5) (hc5 : l5.length ≤ c5) (h : evaluate_True.f k ds ts id fs a0 a1 l2 a3 a4 l5 = some (r1, r2)) (htb : Tb w) :
  Calls Tryd.prog 18 #[.agg #[.slice A0 ds.length c0, .slice A1 ts.length c1, .int .i64 id, .slice A3 fs.length c3], .agg #[.int .i64 a0, .string a1, .slice A2 l2.length c2, .int .i64 a3, .int .i64 a4, .slice A5 l5.length c5]] w fun e w' => e = .returned (.tuple #[.bool r1, .int .i64 r2]) ∧ Below w.heap.size w w' := by
 have hu25 := Tryd.underlying25
 have hu28 := Tryd.underlying28
 have hu32 := Tryd.underlying32
 have hu84 := Tryd.underlying84
 have HR0 := Aside0.mk hr0
 have HR1 := Aside0.mk hr1
 have HR2 := Aside0.mk hr2
 have HR3 := Aside0.mk hr3
 have HR5 := Aside0.mk hr5
 have HTB := Aside0.mk htb
 have HL := Aside0.mk (And.intro hc0 (And.intro hc1 (And.intro hc2 hc5)))
 clear hr0 hr1 hr2 hr3 hr5 hc0 hc1 hc2 hc3 hc5 htb
 have HB0 := Aside0.mk (Below.refl w.heap.size w)
 have T1 : True := trivial
 have T2 : True := trivial
 have T3 : True := trivial
 have T4 : True := trivial
 have T5 : True := trivial
 have T6 : True := trivial
 have T7 : True := trivial
 have T8 : True := trivial
 have eg43 : ∀ (args : Array Value) (w : World), (callFunc 43 args).run Tryd.prog w = .ok (.enter 43 args) w := enters_of Tryd.func43 (by kernel_rfl) rfl
 unfold evaluate_True.f at h
 obtain ⟨e, he, h⟩ := Option.bind_eq_some_iff.1 h
 have HLD := Aside0.mk he
 clear he
 by_cases h0 : e = 0
 ·subst h0
  rw [if_pos rfl] at h
  by_cases hl : ts.length < 4398046511104
  case neg => rw [if_neg hl] at h; cases h
  rw [if_pos hl] at h
  have HTL := Aside0.mk hl
  obtain ⟨r, hr, h⟩ := Option.bind_eq_some_iff.1 h
  simp only [Option.some.injEq, Prod.mk.injEq] at h
  obtain ⟨rfl, rfl⟩ := h
  have HTR := Aside0.mk hr
  have HNE : Aside0 (¬ (0 : Int) = 1) := ⟨by decide⟩
  have e1 : wrap64 (wrap64 (2 * (ts.length : Int)) + 1) = 2 * (ts.length : Int) + 1 := by unfold wrap64; omega
  have e2 : wrap64 (2 * (ts.length : Int)) = 2 * (ts.length : Int) := by unfold wrap64; omega
  have e3 : wrap64 (2 * (ts.length : Int) + 1) = 2 * (ts.length : Int) + 1 := by unfold wrap64; omega
  clear hr hl
  go_enter Tryd.func18, Tryd.ntmps18
  go_upto_region 4 with (first
    | (clear T1; (with_reducible refine gate_dst (N := 2) rfl ?_); refine box_event ?hg (N := 2) ?hd (cs := #[.slice A0 ds.length c0, .slice A1 ts.length c1, .int .i64 id, .slice A3 fs.length c3]) (t := 28) ?hr ?_; (case hd => rfl); (case hg => rfl); (case hr => first | (go_simp; done) | (go_simp; rfl)); intro g1 hg w1 hbox hb; have HB1 := Aside0.mk (below_step HB0.out hb); have BW1 := Aside0.mk hbox; clear hb hbox hg HB0)
    | (clear T2; (with_reducible refine gate_dst (N := 3) rfl ?_); refine box_event ?hg (N := 3) ?hd (cs := #[.int .i64 a0, .string a1, .slice A2 l2.length c2, .int .i64 a3, .int .i64 a4, .slice A5 l5.length c5]) (t := 32) ?hr ?_; (case hd => rfl); (case hg => rfl); (case hr => first | (go_simp; done) | (go_simp; rfl)); intro g2 hg w2 hbox hb; have HB2 := Aside0.mk (below_step HB1.out hb); have BW2 := Aside0.mk (blk_below BW1.out hb); have BF2 := Aside0.mk hbox; clear hb hbox hg HB1 BW1; have x0 : w2.cell? ⟨g1, 0, none⟩ = some (.slice A0 ds.length c0) := (blk_cell BW2.out 0).trans rfl; have x1 : w2.cell? ⟨g1, 1, none⟩ = some (.slice A1 ts.length c1) := (blk_cell BW2.out 1).trans rfl; have x2 : w2.cell? ⟨g1, 2, none⟩ = some (.int .i64 id) := (blk_cell BW2.out 2).trans rfl; have x3 : w2.cell? ⟨g1, 3, none⟩ = some (.slice A3 fs.length c3) := (blk_cell BW2.out 3).trans rfl; have y0 : w2.cell? ⟨g2, 0, none⟩ = some (.int .i64 a0) := (blk_cell BF2.out 0).trans rfl; have y1 : w2.cell? ⟨g2, 1, none⟩ = some (.string a1) := (blk_cell BF2.out 1).trans rfl; have y2 : w2.cell? ⟨g2, 2, none⟩ = some (.slice A2 l2.length c2) := (blk_cell BF2.out 2).trans rfl; have y3 : w2.cell? ⟨g2, 3, none⟩ = some (.int .i64 a3) := (blk_cell BF2.out 3).trans rfl; have y4 : w2.cell? ⟨g2, 4, none⟩ = some (.int .i64 a4) := (blk_cell BF2.out 4).trans rfl; have y5 : w2.cell? ⟨g2, 5, none⟩ = some (.slice A5 l5.length c5) := (blk_cell BF2.out 5).trans rfl)
    | (clear T3; go_at_call 38; refine (load_any k A0 c0 ds A1 c1 ts id A3 c3 fs (⟨a0, a1, l2, a3, a4, l5⟩ : S32) A2 c2 A5 c5 0 _ (Kd.C_below HR0.out HB2.out) HL.out.1 (Kd.C_below HR1.out HB2.out) HL.out.2.1 (Kd.C_below HR3.out HB2.out) (Kd.C_below HR2.out HB2.out) HL.out.2.2.1 (Kd.C_below HR5.out HB2.out) HL.out.2.2.2 HLD.out).mono ?_; rintro e w3 ⟨hcase, hb⟩; obtain ⟨_, b, rfl, hgb, hmd⟩ := hcase.resolve_left (fun h => HNE.out h.1); have HB3 := Aside0.mk (below_step HB2.out hb); have BF3 := Aside0.mk (blk_below BF2.out hb); have HMD := Aside0.mk hmd; clear hb HB2 hcase hgb hmd; have y'0 : w3.cell? ⟨g2, 0, none⟩ = some (.int .i64 a0) := (blk_cell BF3.out 0).trans rfl; have y'1 : w3.cell? ⟨g2, 1, none⟩ = some (.string a1) := (blk_cell BF3.out 1).trans rfl; have y'2 : w3.cell? ⟨g2, 2, none⟩ = some (.slice A2 l2.length c2) := (blk_cell BF3.out 2).trans rfl; have y'3 : w3.cell? ⟨g2, 3, none⟩ = some (.int .i64 a3) := (blk_cell BF3.out 3).trans rfl; have y'4 : w3.cell? ⟨g2, 4, none⟩ = some (.int .i64 a4) := (blk_cell BF3.out 4).trans rfl; have y'5 : w3.cell? ⟨g2, 5, none⟩ = some (.slice A5 l5.length c5) := (blk_cell BF3.out 5).trans rfl))
  generalize hW : w3.alloc (.cells #[.pointer (some ⟨b, 0, none⟩)] 76) = w4
  have hb4 : Below w3.heap.size w3 w4 := by rw [← hW]; exact below_alloc (Below.refl _ _) _
  have HB4 := Aside0.mk (below_step HB3.out hb4)
  have BF4 := Aside0.mk (blk_below BF3.out hb4)
  have HMD4 := Aside0.mk (Md_below HMD.out hb4)
  have BP4 : Aside0 (w4.heap[w3.heap.size]? = some (.cells #[.pointer (some ⟨b, 0, none⟩)] 76 (0, 0))) := ⟨by rw [← hW]; exact heap_alloc_new _ _⟩
  clear hW hb4
  have p0 : w4.cell? ⟨w3.heap.size, 0, none⟩ = some (.pointer (some ⟨b, 0, none⟩)) := (blk_cell BP4.out 0).trans rfl
  obtain ⟨M0, d0, M1, d1, mb, nm, hm, _⟩ := HMD4.out
  have m1 : w4.cell? ⟨b, 1, none⟩ = some (.slice M1 ts.length d1) := (blk_cell hm 1).trans rfl
  clear hm
  go_wp2_with (go_at_call 42; refine (some_any 43 #[.pointer (some ⟨w3.heap.size, 0, none⟩), .pointer (some ⟨g2, 0, none⟩)] true (fun i => truthG ds ts id fs k (⟨a0, a1, l2, a3, a4, l5⟩ : S32) [] 0 i) 0 (2 * (ts.length : Int) + 1) r _ eg43 (fun W i q hW h0 h1 hq => moment_any k ds ts id fs a0 a1 A2 c2 l2 a3 a4 A5 c5 l5 b g2 w3.heap.size i q W (Md_below HMD4.out hW) (tb_on HTB.out (below_step HB4.out hW)) (Kd.C_below HR2.out (below_step HB4.out hW)) HL.out.2.2.1 (Kd.C_below HR5.out (below_step HB4.out hW)) HL.out.2.2.2 (blk_below BP4.out hW) (blk_below BF4.out hW) hq) (by decide) (by have := HTL.out; omega) (by rw [show (2 * (ts.length : Int) + 1 - 0).toNat = 2 * ts.length + 1 by omega]; exact HTR.out)).mono ?_; rintro e w5 ⟨rfl, hb⟩; have HB5 := Aside0.mk (below_step HB4.out hb); clear hb)
  go_ret2
  exact ⟨rfl, HB5.out⟩
 ·rw [if_neg h0] at h
  simp only [Option.some.injEq, Prod.mk.injEq] at h
  obtain ⟨rfl, rfl⟩ := h
  have d1 : (e != 0) = true := bne_iff_ne.mpr h0
  clear h0
  by_cases h1 : e = 1
  ·subst h1
   go_enter Tryd.func18, Tryd.ntmps18
   go_wp2_with (first
     | (clear T1; (with_reducible refine gate_dst (N := 2) rfl ?_); refine box_event ?hg (N := 2) ?hd (cs := #[.slice A0 ds.length c0, .slice A1 ts.length c1, .int .i64 id, .slice A3 fs.length c3]) (t := 28) ?hr ?_; (case hd => rfl); (case hg => rfl); (case hr => first | (go_simp; done) | (go_simp; rfl)); intro g1 hg w1 hbox hb; have HB1 := Aside0.mk (below_step HB0.out hb); have BW1 := Aside0.mk hbox; clear hb hbox hg HB0)
     | (clear T2; (with_reducible refine gate_dst (N := 3) rfl ?_); refine box_event ?hg (N := 3) ?hd (cs := #[.int .i64 a0, .string a1, .slice A2 l2.length c2, .int .i64 a3, .int .i64 a4, .slice A5 l5.length c5]) (t := 32) ?hr ?_; (case hd => rfl); (case hg => rfl); (case hr => first | (go_simp; done) | (go_simp; rfl)); intro g2 hg w2 hbox hb; have HB2 := Aside0.mk (below_step HB1.out hb); have BW2 := Aside0.mk (blk_below BW1.out hb); have BF2 := Aside0.mk hbox; clear hb hbox hg HB1 BW1; have x0 : w2.cell? ⟨g1, 0, none⟩ = some (.slice A0 ds.length c0) := (blk_cell BW2.out 0).trans rfl; have x1 : w2.cell? ⟨g1, 1, none⟩ = some (.slice A1 ts.length c1) := (blk_cell BW2.out 1).trans rfl; have x2 : w2.cell? ⟨g1, 2, none⟩ = some (.int .i64 id) := (blk_cell BW2.out 2).trans rfl; have x3 : w2.cell? ⟨g1, 3, none⟩ = some (.slice A3 fs.length c3) := (blk_cell BW2.out 3).trans rfl; have y0 : w2.cell? ⟨g2, 0, none⟩ = some (.int .i64 a0) := (blk_cell BF2.out 0).trans rfl; have y1 : w2.cell? ⟨g2, 1, none⟩ = some (.string a1) := (blk_cell BF2.out 1).trans rfl; have y2 : w2.cell? ⟨g2, 2, none⟩ = some (.slice A2 l2.length c2) := (blk_cell BF2.out 2).trans rfl; have y3 : w2.cell? ⟨g2, 3, none⟩ = some (.int .i64 a3) := (blk_cell BF2.out 3).trans rfl; have y4 : w2.cell? ⟨g2, 4, none⟩ = some (.int .i64 a4) := (blk_cell BF2.out 4).trans rfl; have y5 : w2.cell? ⟨g2, 5, none⟩ = some (.slice A5 l5.length c5) := (blk_cell BF2.out 5).trans rfl)
     | (clear T3; go_at_call 38; refine (load_any k A0 c0 ds A1 c1 ts id A3 c3 fs (⟨a0, a1, l2, a3, a4, l5⟩ : S32) A2 c2 A5 c5 1 _ (Kd.C_below HR0.out HB2.out) HL.out.1 (Kd.C_below HR1.out HB2.out) HL.out.2.1 (Kd.C_below HR3.out HB2.out) (Kd.C_below HR2.out HB2.out) HL.out.2.2.1 (Kd.C_below HR5.out HB2.out) HL.out.2.2.2 HLD.out).mono ?_; rintro e w3 ⟨hcase, hb⟩; obtain ⟨_, rfl⟩ := hcase.resolve_right (fun h => h.1 rfl); have HB3 := Aside0.mk (below_step HB2.out hb); have BF3 := Aside0.mk (blk_below BF2.out hb); clear hb HB2 hcase; have y'0 : w3.cell? ⟨g2, 0, none⟩ = some (.int .i64 a0) := (blk_cell BF3.out 0).trans rfl; have y'1 : w3.cell? ⟨g2, 1, none⟩ = some (.string a1) := (blk_cell BF3.out 1).trans rfl; have y'2 : w3.cell? ⟨g2, 2, none⟩ = some (.slice A2 l2.length c2) := (blk_cell BF3.out 2).trans rfl; have y'3 : w3.cell? ⟨g2, 3, none⟩ = some (.int .i64 a3) := (blk_cell BF3.out 3).trans rfl; have y'4 : w3.cell? ⟨g2, 4, none⟩ = some (.int .i64 a4) := (blk_cell BF3.out 4).trans rfl; have y'5 : w3.cell? ⟨g2, 5, none⟩ = some (.slice A5 l5.length c5) := (blk_cell BF3.out 5).trans rfl))
   go_ret2
   exact ⟨rfl, by repeat (first | exact HB3.out | apply below_alloc | apply below_drew)⟩
  ·have HNE := Aside0.mk h1
   clear h1
   go_enter Tryd.func18, Tryd.ntmps18
   go_wp2_with (first
     | (clear T1; (with_reducible refine gate_dst (N := 2) rfl ?_); refine box_event ?hg (N := 2) ?hd (cs := #[.slice A0 ds.length c0, .slice A1 ts.length c1, .int .i64 id, .slice A3 fs.length c3]) (t := 28) ?hr ?_; (case hd => rfl); (case hg => rfl); (case hr => first | (go_simp; done) | (go_simp; rfl)); intro g1 hg w1 hbox hb; have HB1 := Aside0.mk (below_step HB0.out hb); have BW1 := Aside0.mk hbox; clear hb hbox hg HB0)
     | (clear T2; (with_reducible refine gate_dst (N := 3) rfl ?_); refine box_event ?hg (N := 3) ?hd (cs := #[.int .i64 a0, .string a1, .slice A2 l2.length c2, .int .i64 a3, .int .i64 a4, .slice A5 l5.length c5]) (t := 32) ?hr ?_; (case hd => rfl); (case hg => rfl); (case hr => first | (go_simp; done) | (go_simp; rfl)); intro g2 hg w2 hbox hb; have HB2 := Aside0.mk (below_step HB1.out hb); have BW2 := Aside0.mk (blk_below BW1.out hb); have BF2 := Aside0.mk hbox; clear hb hbox hg HB1 BW1; have x0 : w2.cell? ⟨g1, 0, none⟩ = some (.slice A0 ds.length c0) := (blk_cell BW2.out 0).trans rfl; have x1 : w2.cell? ⟨g1, 1, none⟩ = some (.slice A1 ts.length c1) := (blk_cell BW2.out 1).trans rfl; have x2 : w2.cell? ⟨g1, 2, none⟩ = some (.int .i64 id) := (blk_cell BW2.out 2).trans rfl; have x3 : w2.cell? ⟨g1, 3, none⟩ = some (.slice A3 fs.length c3) := (blk_cell BW2.out 3).trans rfl; have y0 : w2.cell? ⟨g2, 0, none⟩ = some (.int .i64 a0) := (blk_cell BF2.out 0).trans rfl; have y1 : w2.cell? ⟨g2, 1, none⟩ = some (.string a1) := (blk_cell BF2.out 1).trans rfl; have y2 : w2.cell? ⟨g2, 2, none⟩ = some (.slice A2 l2.length c2) := (blk_cell BF2.out 2).trans rfl; have y3 : w2.cell? ⟨g2, 3, none⟩ = some (.int .i64 a3) := (blk_cell BF2.out 3).trans rfl; have y4 : w2.cell? ⟨g2, 4, none⟩ = some (.int .i64 a4) := (blk_cell BF2.out 4).trans rfl; have y5 : w2.cell? ⟨g2, 5, none⟩ = some (.slice A5 l5.length c5) := (blk_cell BF2.out 5).trans rfl)
     | (clear T3; go_at_call 38; refine (load_any k A0 c0 ds A1 c1 ts id A3 c3 fs (⟨a0, a1, l2, a3, a4, l5⟩ : S32) A2 c2 A5 c5 e _ (Kd.C_below HR0.out HB2.out) HL.out.1 (Kd.C_below HR1.out HB2.out) HL.out.2.1 (Kd.C_below HR3.out HB2.out) (Kd.C_below HR2.out HB2.out) HL.out.2.2.1 (Kd.C_below HR5.out HB2.out) HL.out.2.2.2 HLD.out).mono ?_; rintro e w3 ⟨hcase, hb⟩; obtain ⟨_, b, rfl, hgb, hmd⟩ := hcase.resolve_left (fun h => HNE.out h.1); have HB3 := Aside0.mk (below_step HB2.out hb); have BF3 := Aside0.mk (blk_below BF2.out hb); have HMD := Aside0.mk hmd; clear hb HB2 hcase hgb hmd; have y'0 : w3.cell? ⟨g2, 0, none⟩ = some (.int .i64 a0) := (blk_cell BF3.out 0).trans rfl; have y'1 : w3.cell? ⟨g2, 1, none⟩ = some (.string a1) := (blk_cell BF3.out 1).trans rfl; have y'2 : w3.cell? ⟨g2, 2, none⟩ = some (.slice A2 l2.length c2) := (blk_cell BF3.out 2).trans rfl; have y'3 : w3.cell? ⟨g2, 3, none⟩ = some (.int .i64 a3) := (blk_cell BF3.out 3).trans rfl; have y'4 : w3.cell? ⟨g2, 4, none⟩ = some (.int .i64 a4) := (blk_cell BF3.out 4).trans rfl; have y'5 : w3.cell? ⟨g2, 5, none⟩ = some (.slice A5 l5.length c5) := (blk_cell BF3.out 5).trans rfl))
   go_ret2
   exact ⟨rfl, by repeat (first | exact HB3.out | apply below_alloc | apply below_drew)⟩

/-! ### evaluate_Moments: function 22 -/
def evaluate_Moments.l0 : Nat → Int → List Int → Int → Option (List Int × Int)
 | 0, _, _, _ => none
 | k + 1, x9, x11, x12 => if x12 < x9 then (if x11.length < 17592186044416 then (evaluate_Moments.l0 k x9 (x11 ++ [x12]) (wrap64 (x12 + 1))) else (none)) else (some (x11, 0))
def evaluate_Moments.f (k : Nat) (l0_0 : List (S73)) (l0_1 : List Int) (a0_2 : Int) (l0_3 : List (S62)) (a1 : Int) (a2 : Int) : Option (List Int × Int) := (evaluate_proper.f l0_0 l0_1 a0_2).bind fun t169 => (if t169 = true then ((evaluate_interval.f k l0_0 l0_1 a0_2 a1 a2).bind fun bt170 => (if bt170.2.2 = true then (evaluate_Moments.l0 k bt170.2.1 ([] : List Int) bt170.1) else (some (([] : List Int), 1)))) else (some (([] : List Int), 1)))
theorem evaluate_Moments.mono_l : ∀ k, (∀ y0 y1 y2, LeO (evaluate_Moments.l0 k y0 y1 y2) (evaluate_Moments.l0 (k + 1) y0 y1 y2))
 | 0 => fun _ _ _ r h => by simp [evaluate_Moments.l0] at h
 | k + 1 => by
  have ih0 := evaluate_Moments.mono_l k
  ·intro y0 y1 y2
   unfold evaluate_Moments.l0
   repeat' first
   | (with_reducible exact ih0 _ _ _)
   | (with_reducible exact evaluate_interval.mono _ _ _ _ _ _)
   | (with_reducible exact LeO.refl _)
   | (with_reducible exact LeO.none _)
   | (with_reducible refine LeO.ite ?_ ?_)
   | (with_reducible refine LeO.bind ?_ (fun _ => ?_))
   | exact ih0 _ _ _
   | exact evaluate_interval.mono _ _ _ _ _ _
   | exact LeO.none _
   | refine LeO.ite ?_ ?_
   | refine LeO.bind ?_ (fun _ => ?_)
theorem evaluate_Moments.mono : ∀ a0 a1 a2 a3 a4 a5 k, LeO (evaluate_Moments.f k a0 a1 a2 a3 a4 a5) (evaluate_Moments.f (k + 1) a0 a1 a2 a3 a4 a5) := by
 intro a0 a1 a2 a3 a4 a5 k
 have ih0 := evaluate_Moments.mono_l k
 unfold evaluate_Moments.f
 repeat' first
   | (with_reducible exact ih0 _ _ _)
   | (with_reducible exact evaluate_interval.mono _ _ _ _ _ _)
   | (with_reducible exact LeO.refl _)
   | (with_reducible exact LeO.none _)
   | (with_reducible refine LeO.ite ?_ ?_)
   | (with_reducible refine LeO.bind ?_ (fun _ => ?_))
   | exact ih0 _ _ _
   | exact evaluate_interval.mono _ _ _ _ _ _
   | exact LeO.none _
   | refine LeO.ite ?_ ?_
   | refine LeO.bind ?_ (fun _ => ?_)
set_option maxHeartbeats 8000000 in
set_option maxRecDepth 100000 in
theorem evaluate_Moments.calls (k : Nat) (A0_0 : Option Addr) (c0_0 : Nat) (l0_0 : List (S73)) (A0_1 : Option Addr) (c0_1 : Nat) (l0_1 : List Int) (a0_2 : Int) (A0_3 : Option Addr) (c0_3 : Nat) (l0_3 : List (S62)) (a1 : Int) (a2 : Int) (r1 : List Int) (r2 : Int) (w : World) (hr0_0 : Kd.C k73 w A0_0 l0_0.length l0_0) (hc0_0 : l0_0.length ≤ c0_0) (hr0_1 : Kd.C (Kd.int .i64) w A0_1 l0_1.length l0_1) (hc0_1 : l0_1.length ≤ c0_1) (hr0_3 : Kd.C k62 w A0_3 l0_3.length l0_3) (hc0_3 : l0_3.length ≤ c0_3) (h : evaluate_Moments.f k l0_0 l0_1 a0_2 l0_3 a1 a2 = some (r1, r2)) :
  Calls Tryd.prog 22 #[.agg #[.slice A0_0 l0_0.length c0_0, .slice A0_1 l0_1.length c0_1, .int .i64 a0_2, .slice A0_3 l0_3.length c0_3], .int .i64 a1, .int .i64 a2] w fun e w' => ∃ v0_ : Value, e = .returned (.tuple #[v0_, .int .i64 r2]) ∧ Kd.R (Kd.int .i64) 3 w' w.heap.size (fun _ => True) v0_ r1 ∧ Below w.heap.size w w' := by
 have hu28 := Tryd.underlying28
 have hu25 := Tryd.underlying25
 have HR0_0 := Aside0.mk hr0_0
 have HC0_0 := Aside0.mk hc0_0
 clear hr0_0 hc0_0
 have HR0_1 := Aside0.mk hr0_1
 have HC0_1 := Aside0.mk hc0_1
 clear hr0_1 hc0_1
 have HR0_3 := Aside0.mk hr0_3
 have HC0_3 := Aside0.mk hc0_3
 clear hr0_3 hc0_3
 have HB := Aside0.mk (Below.refl w.heap.size w)
 have H : ((evaluate_proper.f l0_0 l0_1 a0_2).bind fun t169 => (if t169 = true then ((evaluate_interval.f k l0_0 l0_1 a0_2 a1 a2).bind fun bt170 => (if bt170.2.2 = true then (evaluate_Moments.l0 k bt170.2.1 ([] : List Int) bt170.1) else (some (([] : List Int), 1)))) else (some (([] : List Int), 1)))) = some (r1, r2) := h
 clear h
 replace H := Option.bind_eq_some_iff.mp H
 obtain ⟨t169, A40, H⟩ := H
 replace H : (if t169 = true then ((evaluate_interval.f k l0_0 l0_1 a0_2 a1 a2).bind fun bt170 => (if bt170.2.2 = true then (evaluate_Moments.l0 k bt170.2.1 ([] : List Int) bt170.1) else (some (([] : List Int), 1)))) else (some (([] : List Int), 1))) = some (r1, r2) := H
 have A4 := Aside0.mk A40
 clear A40
 by_cases c5 : t169 = true
 ·subst c5
  have H1 : ((evaluate_interval.f k l0_0 l0_1 a0_2 a1 a2).bind fun bt170 => (if bt170.2.2 = true then (evaluate_Moments.l0 k bt170.2.1 ([] : List Int) bt170.1) else (some (([] : List Int), 1)))) = some (r1, r2) := by rw [if_pos rfl] at H; exact H
  clear H
  have H := H1
  clear H1
  replace H := Option.bind_eq_some_iff.mp H
  obtain ⟨⟨t170, t171, t172⟩, A60, H⟩ := H
  replace H : (if t172 = true then (evaluate_Moments.l0 k t171 ([] : List Int) t170) else (some (([] : List Int), 1))) = some (r1, r2) := H
  have A6 := Aside0.mk A60
  clear A60
  by_cases c7 : t172 = true
  ·subst c7
   have H1 : (evaluate_Moments.l0 k t171 ([] : List Int) t170) = some (r1, r2) := by rw [if_pos rfl] at H; exact H
   clear H
   have H := H1
   clear H1
   have H' := Aside0.mk H
   clear H
   go_enter Tryd.func22, Tryd.ntmps22
   go_wp2_with (first | ((with_reducible refine gate_dst (N := 3) rfl ?_); refine box_event ?hg (N := 3) ?hd (cs := #[.slice A0_0 l0_0.length c0_0, .slice A0_1 l0_1.length c0_1, .int .i64 a0_2, .slice A0_3 l0_3.length c0_3]) (t := 28) ?hr ?_; (case hd => rfl); (case hg => rfl); (case hr => first | (go_simp; done) | (go_simp; rfl)); intro gb168 hg w8 hbox hb; have n0_ := Aside0.mk (below_step (be_ HB) hb); have n1_ := Aside0.mk (hbox); have n2_ := Aside0.mk ((by rw [hg]; exact (below_size (be_ HB)) : w.heap.size ≤ gb168)); have n3_ := Aside0.mk ((by rw [hg]; exact (below_size (be_ HB)) : w.heap.size ≤ gb168)); clear HB; have HB := n0_; have BK168 := n1_; have GW168 := n2_; have GE168 := n3_; clear n0_ n1_ n2_ n3_; clear hb hbox hg; have hcz9_0 : w8.cell? ⟨gb168, 0, none⟩ = some (.slice A0_0 l0_0.length c0_0) := (blk_cell BK168.out 0).trans rfl; have hcz9_1 : w8.cell? ⟨gb168, 1, none⟩ = some (.slice A0_1 l0_1.length c0_1) := (blk_cell BK168.out 1).trans rfl; have hcz9_2 : w8.cell? ⟨gb168, 2, none⟩ = some (.int .i64 a0_2) := (blk_cell BK168.out 2).trans rfl; have hcz9_3 : w8.cell? ⟨gb168, 3, none⟩ = some (.slice A0_3 l0_3.length c0_3) := (blk_cell BK168.out 3).trans rfl; have hfz9_0 := blk_frozen BK168.out 0; have hfz9_1 := blk_frozen BK168.out 1; have hfz9_2 := blk_frozen BK168.out 2; have hfz9_3 := blk_frozen BK168.out 3) | ((with_reducible refine gate_callee (f := 44) rfl ?_); refine goesL_ (some 15) rfl rfl Tryd.func44 (by kernel_rfl) rfl #[.agg #[.slice A0_0 l0_0.length c0_0, .slice A0_1 l0_1.length c0_1, .int .i64 a0_2]] rfl (by (try simp only [List.map_toArray, List.map_cons, List.map_nil]); first | done | rfl | (simp only [List.length_drop, List.length_take]; rfl)) ?_; (with_reducible refine (evaluate_proper.calls _ _ l0_0 _ _ l0_1 a0_2 true _ ?side1 ?side2 ?side3 ?side4 A4.out).mono ?_); (case side1 => exact cs_ (Kd.C_below HR0_0.out HB.out)); (case side2 => exact HC0_0.out); (case side3 => exact cs_ (Kd.C_below HR0_1.out HB.out)); (case side4 => exact HC0_1.out); rintro e w10 ⟨rfl, hb⟩; refine ⟨_, rfl, ?_⟩; have n0_ := Aside0.mk (blk_below (g := gb168) (o := .cells #[.slice A0_0 l0_0.length c0_0, .slice A0_1 l0_1.length c0_1, .int .i64 a0_2, .slice A0_3 l0_3.length c0_3] 28 (0, 0)) (bq_ BK168) hb); have n1_ := Aside0.mk (below_step (be1_ HB GE168) hb); clear BK168; clear HB; have BK168 := n0_; have HB := n1_; clear n0_ n1_; (try clear hb); (try clear hb2); (try clear hk); (try clear hi); have hcz11_0 : w10.cell? ⟨gb168, 0, none⟩ = some (.slice A0_0 l0_0.length c0_0) := (blk_cell BK168.out 0).trans rfl; have hcz11_1 : w10.cell? ⟨gb168, 1, none⟩ = some (.slice A0_1 l0_1.length c0_1) := (blk_cell BK168.out 1).trans rfl; have hcz11_2 : w10.cell? ⟨gb168, 2, none⟩ = some (.int .i64 a0_2) := (blk_cell BK168.out 2).trans rfl; have hcz11_3 : w10.cell? ⟨gb168, 3, none⟩ = some (.slice A0_3 l0_3.length c0_3) := (blk_cell BK168.out 3).trans rfl; have hfz11_0 := blk_frozen BK168.out 0; have hfz11_1 := blk_frozen BK168.out 1; have hfz11_2 := blk_frozen BK168.out 2; have hfz11_3 := blk_frozen BK168.out 3) | ((with_reducible refine gate_callee (f := 45) rfl ?_); refine goesL_ (some 22) rfl rfl Tryd.func45 (by kernel_rfl) rfl #[.agg #[.slice A0_0 l0_0.length c0_0, .slice A0_1 l0_1.length c0_1, .int .i64 a0_2], .int .i64 a1, .int .i64 a2] rfl (by (try simp only [List.map_toArray, List.map_cons, List.map_nil]); first | done | rfl | (simp only [List.length_drop, List.length_take]; rfl)) ?_; (with_reducible refine (evaluate_interval.calls k _ _ l0_0 _ _ l0_1 a0_2 a1 a2 t170 t171 true _ ?side1 ?side2 ?side3 ?side4 A6.out).mono ?_); (case side1 => exact cs_ (Kd.C_below HR0_0.out HB.out)); (case side2 => exact HC0_0.out); (case side3 => exact cs_ (Kd.C_below HR0_1.out HB.out)); (case side4 => exact HC0_1.out); rintro e w12 ⟨rfl, hb⟩; refine ⟨_, rfl, ?_⟩; have n0_ := Aside0.mk (blk_below (g := gb168) (o := .cells #[.slice A0_0 l0_0.length c0_0, .slice A0_1 l0_1.length c0_1, .int .i64 a0_2, .slice A0_3 l0_3.length c0_3] 28 (0, 0)) (bq_ BK168) hb); have n1_ := Aside0.mk (below_step (be1_ HB GE168) hb); clear BK168; clear HB; have BK168 := n0_; have HB := n1_; clear n0_ n1_; (try clear hb); (try clear hb2); (try clear hk); (try clear hi)))
   go_loopg [11, 12] k (fun kq v11 v12 w' => ∃ (x11_1 : List Int) (x12_1 : Int), v12 = .int .i64 x12_1 ∧ Aside0 (evaluate_Moments.l0 kq t171 x11_1 x12_1 = some (r1, r2)) ∧ Aside0 (kq ≤ k) ∧ Aside0 (Kd.R (Kd.int .i64) 3 w' w.heap.size (fun _ => True) v11 x11_1) ∧ Aside0 (w'.heap[gb168]? = some (.cells #[(.slice A0_0 l0_0.length c0_0), (.slice A0_1 l0_1.length c0_1), .int .i64 a0_2, (.slice A0_3 l0_3.length c0_3)] 28 (0, 0))) ∧ Aside0 (Below w.heap.size w w'))
   case atStart => exact ⟨(([] : List Int)), (t170), fi_, H', ⟨Nat.le_refl _⟩, ⟨by first | exact Kd.R_nil _ _ _ _ _ | exact Kd.N_nil _ _ _ _ _ | exact Kd.V_nil _ _ _ _ _ | exact Kd.Q_nil _ _ _ _ _ | exact Kd.S_nil _ _ _ _ _⟩, ⟨bq_ BK168⟩, ⟨be1_ HB GE168⟩⟩
   case round =>
    clear H'
    try clear c2
    try clear p2
    try clear c4
    try clear c5
    try clear c7
    try clear hcz11_0
    try clear hcz11_1
    try clear hcz11_2
    try clear hcz11_3
    try clear hcz9_0
    try clear hcz9_1
    try clear hcz9_2
    try clear hcz9_3
    try clear hfz11_0
    try clear hfz11_1
    try clear hfz11_2
    try clear hfz11_3
    try clear hfz9_0
    try clear hfz9_1
    try clear hfz9_2
    try clear hfz9_3
    obtain ⟨x11_1, x12_1, rfl, HA, HK1, HO_11, BK168, HB⟩ := hrel
    cases gk with
    | zero => exact absurd HA.out (by simp [evaluate_Moments.l0])
    | succ k1 =>
     have H := HA.out
     clear HA
     simp only [evaluate_Moments.l0] at H
     by_cases c13 : x12_1 < t171
     ·rw [if_pos c13] at H
      have c13b0 : decide (x12_1 < t171) = true := decide_eq_true c13
      clear c13
      by_cases c14 : x11_1.length < 17592186044416
      ·rw [if_pos c14] at H
       have LMc14 := Aside0.mk c14
       clear c14
       obtain ⟨y173, hy173⟩ : ∃ y_ : List Int, y_ = (x11_1 ++ [x12_1]) := ⟨_, rfl⟩
       replace H : (evaluate_Moments.l0 k1 t171 y173 (wrap64 (x12_1 + 1))) = some (r1, r2) := by first | (rw [hy173]; with_reducible exact H) | (have H2_ := (Option.bind_some _ _).symm.trans H; rw [hy173]; with_reducible exact H2_) | (have H2_ := (Option.bind_some _ _).symm.trans H; with_reducible exact H2_) | with_reducible exact H | (rw [hy173]; exact H) | exact H
       have Ny173 := Aside0.mk hy173
       clear hy173
       have H' := Aside0.mk H
       clear H
       go_wp2_with (first | ((with_reducible refine gate_builtin (b := .append) (xs := #[.tmp 34, .tmp 36]) rfl ?_); at_builtin; refine Kd.R_append (Kd.int .i64) (w0 := w) w.heap.size rfl (.tmp 34) (.tmp 36) 23 3 (.int .i64 0) 8 rfl Tryd.underlying23 info3 rfl (by decide) (by omega) u11 x11_1 x12_1 [.int .i64 x12_1] (fun _ => True) (fun _ => False) rfl rfl ?aP (fun _ hk => hk.elim) ?aF ?aO ?aB ?aS ?aL ?_; (case aP => exact rfl); (case aB => exact (be1_ HB GE168)); (case aF => exact (fun _ _ => trivial)); (case aO => exact (rq_ HO_11)); (case aS => exact (below_size (be1_ HB GE168))); (case aL => have := LMc14.out; omega); intro v174 w15 ho hb hg hat; rw [← Ny173.out] at ho; have n0_ := Aside0.mk (blk_grown (g := gb168) (o := .cells #[.slice A0_0 l0_0.length c0_0, .slice A0_1 l0_1.length c0_1, .int .i64 a0_2, .slice A0_3 l0_3.length c0_3] 28 (0, 0)) (bq_ BK168) hg (Kd.R_ne HO_11.out BK168.out (by decide))); have n1_ := Aside0.mk (hb); have n2_ := Aside0.mk (ho); clear BK168; clear HB; clear HO_11; have BK168 := n0_; have HB := n1_; have HO175 := n2_; clear n0_ n1_ n2_; clear ho hb hg hat))
       go_roundg k1
       case measure => have := HK1.out; omega
       case rel => exact ⟨(y173), (wrap64 (x12_1 + 1)), fi_, H', ⟨by have := HK1.out; omega⟩, ⟨rq_ HO175⟩, ⟨bq_ BK168⟩, ⟨be1_ HB GE168⟩⟩
      ·rw [if_neg c14] at H
       exact absurd H (by simp)
     ·rw [if_neg c13] at H
      have c13b0 : decide (x12_1 < t171) = false := decide_eq_false c13
      clear c13
      simp only [Option.some.injEq, Prod.mk.injEq] at H
      obtain ⟨rfl, rfl⟩ := H
      go_wp2
      go_ret2
      exact ⟨_, er_, by (with_reducible repeat (first | apply Kd.R_alloc | apply Kd.R_drewN | apply Kd.R_drew)); exact HO_11.out, be1_ HB GE168⟩
  ·replace c7 := Bool.eq_false_iff.mpr c7
   subst c7
   have H1 : (some (([] : List Int), 1)) = some (r1, r2) := by rw [if_neg (show ¬ (false = true) by decide)] at H; exact H
   clear H
   have H := H1
   clear H1
   simp only [Option.some.injEq, Prod.mk.injEq] at H
   obtain ⟨rfl, rfl⟩ := H
   go_enter Tryd.func22, Tryd.ntmps22
   go_wp2_with (first | ((with_reducible refine gate_dst (N := 3) rfl ?_); refine box_event ?hg (N := 3) ?hd (cs := #[.slice A0_0 l0_0.length c0_0, .slice A0_1 l0_1.length c0_1, .int .i64 a0_2, .slice A0_3 l0_3.length c0_3]) (t := 28) ?hr ?_; (case hd => rfl); (case hg => rfl); (case hr => first | (go_simp; done) | (go_simp; rfl)); intro gb168 hg w16 hbox hb; have n0_ := Aside0.mk (below_step (be_ HB) hb); have n1_ := Aside0.mk (hbox); have n2_ := Aside0.mk ((by rw [hg]; exact (below_size (be_ HB)) : w.heap.size ≤ gb168)); have n3_ := Aside0.mk ((by rw [hg]; exact (below_size (be_ HB)) : w.heap.size ≤ gb168)); clear HB; have HB := n0_; have BK168 := n1_; have GW168 := n2_; have GE168 := n3_; clear n0_ n1_ n2_ n3_; clear hb hbox hg; have hcz17_0 : w16.cell? ⟨gb168, 0, none⟩ = some (.slice A0_0 l0_0.length c0_0) := (blk_cell BK168.out 0).trans rfl; have hcz17_1 : w16.cell? ⟨gb168, 1, none⟩ = some (.slice A0_1 l0_1.length c0_1) := (blk_cell BK168.out 1).trans rfl; have hcz17_2 : w16.cell? ⟨gb168, 2, none⟩ = some (.int .i64 a0_2) := (blk_cell BK168.out 2).trans rfl; have hcz17_3 : w16.cell? ⟨gb168, 3, none⟩ = some (.slice A0_3 l0_3.length c0_3) := (blk_cell BK168.out 3).trans rfl; have hfz17_0 := blk_frozen BK168.out 0; have hfz17_1 := blk_frozen BK168.out 1; have hfz17_2 := blk_frozen BK168.out 2; have hfz17_3 := blk_frozen BK168.out 3) | ((with_reducible refine gate_callee (f := 44) rfl ?_); refine goesL_ (some 15) rfl rfl Tryd.func44 (by kernel_rfl) rfl #[.agg #[.slice A0_0 l0_0.length c0_0, .slice A0_1 l0_1.length c0_1, .int .i64 a0_2]] rfl (by (try simp only [List.map_toArray, List.map_cons, List.map_nil]); first | done | rfl | (simp only [List.length_drop, List.length_take]; rfl)) ?_; (with_reducible refine (evaluate_proper.calls _ _ l0_0 _ _ l0_1 a0_2 true _ ?side1 ?side2 ?side3 ?side4 A4.out).mono ?_); (case side1 => exact cs_ (Kd.C_below HR0_0.out HB.out)); (case side2 => exact HC0_0.out); (case side3 => exact cs_ (Kd.C_below HR0_1.out HB.out)); (case side4 => exact HC0_1.out); rintro e w18 ⟨rfl, hb⟩; refine ⟨_, rfl, ?_⟩; have n0_ := Aside0.mk (blk_below (g := gb168) (o := .cells #[.slice A0_0 l0_0.length c0_0, .slice A0_1 l0_1.length c0_1, .int .i64 a0_2, .slice A0_3 l0_3.length c0_3] 28 (0, 0)) (bq_ BK168) hb); have n1_ := Aside0.mk (below_step (be1_ HB GE168) hb); clear BK168; clear HB; have BK168 := n0_; have HB := n1_; clear n0_ n1_; (try clear hb); (try clear hb2); (try clear hk); (try clear hi); have hcz19_0 : w18.cell? ⟨gb168, 0, none⟩ = some (.slice A0_0 l0_0.length c0_0) := (blk_cell BK168.out 0).trans rfl; have hcz19_1 : w18.cell? ⟨gb168, 1, none⟩ = some (.slice A0_1 l0_1.length c0_1) := (blk_cell BK168.out 1).trans rfl; have hcz19_2 : w18.cell? ⟨gb168, 2, none⟩ = some (.int .i64 a0_2) := (blk_cell BK168.out 2).trans rfl; have hcz19_3 : w18.cell? ⟨gb168, 3, none⟩ = some (.slice A0_3 l0_3.length c0_3) := (blk_cell BK168.out 3).trans rfl; have hfz19_0 := blk_frozen BK168.out 0; have hfz19_1 := blk_frozen BK168.out 1; have hfz19_2 := blk_frozen BK168.out 2; have hfz19_3 := blk_frozen BK168.out 3) | ((with_reducible refine gate_callee (f := 45) rfl ?_); refine goesL_ (some 22) rfl rfl Tryd.func45 (by kernel_rfl) rfl #[.agg #[.slice A0_0 l0_0.length c0_0, .slice A0_1 l0_1.length c0_1, .int .i64 a0_2], .int .i64 a1, .int .i64 a2] rfl (by (try simp only [List.map_toArray, List.map_cons, List.map_nil]); first | done | rfl | (simp only [List.length_drop, List.length_take]; rfl)) ?_; (with_reducible refine (evaluate_interval.calls k _ _ l0_0 _ _ l0_1 a0_2 a1 a2 t170 t171 false _ ?side1 ?side2 ?side3 ?side4 A6.out).mono ?_); (case side1 => exact cs_ (Kd.C_below HR0_0.out HB.out)); (case side2 => exact HC0_0.out); (case side3 => exact cs_ (Kd.C_below HR0_1.out HB.out)); (case side4 => exact HC0_1.out); rintro e w20 ⟨rfl, hb⟩; refine ⟨_, rfl, ?_⟩; have n0_ := Aside0.mk (blk_below (g := gb168) (o := .cells #[.slice A0_0 l0_0.length c0_0, .slice A0_1 l0_1.length c0_1, .int .i64 a0_2, .slice A0_3 l0_3.length c0_3] 28 (0, 0)) (bq_ BK168) hb); have n1_ := Aside0.mk (below_step (be1_ HB GE168) hb); clear BK168; clear HB; have BK168 := n0_; have HB := n1_; clear n0_ n1_; (try clear hb); (try clear hb2); (try clear hk); (try clear hi)))
   go_ret2
   exact ⟨_, er_, by first | exact Kd.R_nil _ _ _ _ _ | exact Kd.N_nil _ _ _ _ _ | exact Kd.V_nil _ _ _ _ _ | exact Kd.Q_nil _ _ _ _ _ | exact Kd.S_nil _ _ _ _ _, be1_ HB GE168⟩
 ·replace c5 := Bool.eq_false_iff.mpr c5
  subst c5
  have H1 : (some (([] : List Int), 1)) = some (r1, r2) := by rw [if_neg (show ¬ (false = true) by decide)] at H; exact H
  clear H
  have H := H1
  clear H1
  simp only [Option.some.injEq, Prod.mk.injEq] at H
  obtain ⟨rfl, rfl⟩ := H
  go_enter Tryd.func22, Tryd.ntmps22
  go_wp2_with (first | ((with_reducible refine gate_dst (N := 3) rfl ?_); refine box_event ?hg (N := 3) ?hd (cs := #[.slice A0_0 l0_0.length c0_0, .slice A0_1 l0_1.length c0_1, .int .i64 a0_2, .slice A0_3 l0_3.length c0_3]) (t := 28) ?hr ?_; (case hd => rfl); (case hg => rfl); (case hr => first | (go_simp; done) | (go_simp; rfl)); intro gb168 hg w21 hbox hb; have n0_ := Aside0.mk (below_step (be_ HB) hb); have n1_ := Aside0.mk (hbox); have n2_ := Aside0.mk ((by rw [hg]; exact (below_size (be_ HB)) : w.heap.size ≤ gb168)); have n3_ := Aside0.mk ((by rw [hg]; exact (below_size (be_ HB)) : w.heap.size ≤ gb168)); clear HB; have HB := n0_; have BK168 := n1_; have GW168 := n2_; have GE168 := n3_; clear n0_ n1_ n2_ n3_; clear hb hbox hg; have hcz22_0 : w21.cell? ⟨gb168, 0, none⟩ = some (.slice A0_0 l0_0.length c0_0) := (blk_cell BK168.out 0).trans rfl; have hcz22_1 : w21.cell? ⟨gb168, 1, none⟩ = some (.slice A0_1 l0_1.length c0_1) := (blk_cell BK168.out 1).trans rfl; have hcz22_2 : w21.cell? ⟨gb168, 2, none⟩ = some (.int .i64 a0_2) := (blk_cell BK168.out 2).trans rfl; have hcz22_3 : w21.cell? ⟨gb168, 3, none⟩ = some (.slice A0_3 l0_3.length c0_3) := (blk_cell BK168.out 3).trans rfl; have hfz22_0 := blk_frozen BK168.out 0; have hfz22_1 := blk_frozen BK168.out 1; have hfz22_2 := blk_frozen BK168.out 2; have hfz22_3 := blk_frozen BK168.out 3) | ((with_reducible refine gate_callee (f := 44) rfl ?_); refine goesL_ (some 15) rfl rfl Tryd.func44 (by kernel_rfl) rfl #[.agg #[.slice A0_0 l0_0.length c0_0, .slice A0_1 l0_1.length c0_1, .int .i64 a0_2]] rfl (by (try simp only [List.map_toArray, List.map_cons, List.map_nil]); first | done | rfl | (simp only [List.length_drop, List.length_take]; rfl)) ?_; (with_reducible refine (evaluate_proper.calls _ _ l0_0 _ _ l0_1 a0_2 false _ ?side1 ?side2 ?side3 ?side4 A4.out).mono ?_); (case side1 => exact cs_ (Kd.C_below HR0_0.out HB.out)); (case side2 => exact HC0_0.out); (case side3 => exact cs_ (Kd.C_below HR0_1.out HB.out)); (case side4 => exact HC0_1.out); rintro e w23 ⟨rfl, hb⟩; refine ⟨_, rfl, ?_⟩; have n0_ := Aside0.mk (blk_below (g := gb168) (o := .cells #[.slice A0_0 l0_0.length c0_0, .slice A0_1 l0_1.length c0_1, .int .i64 a0_2, .slice A0_3 l0_3.length c0_3] 28 (0, 0)) (bq_ BK168) hb); have n1_ := Aside0.mk (below_step (be1_ HB GE168) hb); clear BK168; clear HB; have BK168 := n0_; have HB := n1_; clear n0_ n1_; (try clear hb); (try clear hb2); (try clear hk); (try clear hi)))
  go_ret2
  exact ⟨_, er_, by first | exact Kd.R_nil _ _ _ _ _ | exact Kd.N_nil _ _ _ _ _ | exact Kd.V_nil _ _ _ _ _ | exact Kd.Q_nil _ _ _ _ _ | exact Kd.S_nil _ _ _ _ _, be1_ HB GE168⟩

end Go.Proofs.YtolpckflofjfhaaDoor.P
