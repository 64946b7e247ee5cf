import Derived.Test.YtolpckflofjfhaaDoorPx0
import Derived.Test.YtolpckflofjfhaaDoorPx1
import Derived.Test.YtolpckflofjfhaaDoorPx4
import Derived.Test.YtolpckflofjfhaaDoorPx5
import Derived.Test.YtolpckflofjfhaaDoorPx8
import Derived.Test.YtolpckflofjfhaaDoorPx9
namespace Go.Proofs.YtolpckflofjfhaaDoor.P
open Go.RowKit Go.Proofs.YtolpckflofjfhaaDoorW.PrintWords Go.Proofs.YtolpckflofjfhaaDoorW.PrintLast Go.Proofs.YtolpckflofjfhaaDoorW.PrintMore
attribute [local go_sem] max2_int min2_int max_two min_two max_three min_three max_four min_four
set_option linter.unusedVariables false
set_option maxHeartbeats 16000000
set_option maxRecDepth 100000
set_option linter.unusedSimpArgs false
def evaluate_At.f (k : Nat) (ds : List S73) (ts : List Int) (id : Int) (fs : List S62) (a0 : Int) (a1 : ByteArray) (l2 : List S92) (a3 : Int) (a4 : Int) (l5 : List S32) (co m : Int) : Option (Bool × Int) :=
 (loadG k ds ts id fs (⟨a0, a1, l2, a3, a4, l5⟩ : S32)).bind fun e => if e = 1 then some (false, 1) else if ts.length < 4398046511104 then (if insideB ts id co m = true then (if e = 0 then (truthG ds ts id fs k (⟨a0, a1, l2, a3, a4, l5⟩ : S32) [] co m).bind fun r => some (r, 0) else some (false, e)) else some (false, 1)) else none
theorem evaluate_At.calls (k : Nat) (A0 : Option Addr) (c0 : Nat) (ds : List S73) (A1 : Option Addr) (c1 : Nat) (ts : List Int) (id : Int) (A3 : Option Addr) (c3 : Nat) (fs : List S62) (a0 : Int) (a1 : ByteArray) (A2 : Option Addr) (c2 : Nat) (l2 : List S92) (a3 : Int) (a4 : Int) (A5 : Option Addr) (c5 : Nat) (l5 : List S32) (co m : Int) (r1 : Bool) (r2 : Int) (w : World) (hr0 : Kd.C k73 w A0 ds.length ds) (hc0 : ds.length ≤ c0) (hr1 : Kd.C (Kd.int .i64) w A1 ts.length ts) (hc1 : ts.length ≤ c1) (hr3 : Kd.C k62 w A3 fs.length fs) (hc3 : fs.length ≤ c3) (hr2 : Kd.C k92 w A2 l2.length l2) (hc2 : l2.length ≤ c2) (hr5 : Kd.C k32 w A5 l5.length l5) (hc5 : l5.length ≤ c5) (h : evaluate_At.f k ds ts id fs a0 a1 l2 a3 a4 l5 co m = some (r1, r2)) (htb : Tb w) :
  Calls Tryd.prog 14 #[.agg #[.slice A0 ds.length c0, .slice A1 ts.length c1, .int .i64 id, .slice A3 fs.length c3], .agg #[.int .i64 a0, .string a1, .slice A2 l2.length c2, .int .i64 a3, .int .i64 a4, .slice A5 l5.length c5], .int .i64 co, .int .i64 m] w fun e w' => e = .returned (.tuple #[.bool r1, .int .i64 r2]) ∧ Below w.heap.size w w' := by
 have hu25 := Tryd.underlying25
 have hu28 := Tryd.underlying28
 have hu32 := Tryd.underlying32
 have hu84 := Tryd.underlying84
 have HR0 := mk_ hr0
 have HR1 := mk_ hr1
 have HR2 := mk_ hr2
 have HR3 := mk_ hr3
 have HR5 := mk_ hr5
 have HTB := mk_ htb
 have HL := mk_ (And.intro hc0 (And.intro hc1 (And.intro hc2 hc5)))
 clear hr0 hr1 hr2 hr3 hr5 hc0 hc1 hc2 hc3 hc5 htb
 have HB0 := mk_ (Below.refl w.heap.size w)
 have T1 : True := trivial
 have T2 : True := trivial
 have T3 : True := trivial
 have T4 : True := trivial
 have T5 : True := trivial
 have T6 : True := trivial
 have T7 : True := trivial
 have T8 : True := trivial
 unfold evaluate_At.f at h
 obtain ⟨e, he, h⟩ := Option.bind_eq_some_iff.1 h
 have HLD := mk_ he
 clear he
 by_cases h1 : e = 1
 ·subst h1
  rw [if_pos rfl] at h
  simp only [Option.some.injEq, Prod.mk.injEq] at h
  obtain ⟨rfl, rfl⟩ := h
  go_enter Tryd.func14, Tryd.ntmps14
  go_wp2_with (first
    | (clear T1; (with_reducible refine gate_dst (N := 4) rfl ?_); refine bx_ 4 #[.slice A0 ds.length c0, .slice A1 ts.length c1, .int .i64 id, .slice A3 fs.length c3] 28 ?_; intro g1 hg w1 hbox hb; have HB1 := mk_ (below_step HB0.out hb); have BW1 := mk_ hbox; clear hb hbox hg HB0)
    | (clear T2; (with_reducible refine gate_dst (N := 5) rfl ?_); refine bx_ 5 #[.int .i64 a0, .string a1, .slice A2 l2.length c2, .int .i64 a3, .int .i64 a4, .slice A5 l5.length c5] 32 ?_; intro g2 hg w2 hbox hb; have HB2 := mk_ (below_step HB1.out hb); have BW2 := mk_ (blk_below BW1.out hb); have BF2 := mk_ hbox; clear hb hbox hg HB1 BW1; have x0 : w2.cell? ⟨g1, 0, none⟩ = some (.slice A0 ds.length c0) := (blk_cell BW2.out 0).trans rfl; have x1 : w2.cell? ⟨g1, 1, none⟩ = some (.slice A1 ts.length c1) := (blk_cell BW2.out 1).trans rfl; have x2 : w2.cell? ⟨g1, 2, none⟩ = some (.int .i64 id) := (blk_cell BW2.out 2).trans rfl; have x3 : w2.cell? ⟨g1, 3, none⟩ = some (.slice A3 fs.length c3) := (blk_cell BW2.out 3).trans rfl; have y0 : w2.cell? ⟨g2, 0, none⟩ = some (.int .i64 a0) := (blk_cell BF2.out 0).trans rfl; have y1 : w2.cell? ⟨g2, 1, none⟩ = some (.string a1) := (blk_cell BF2.out 1).trans rfl; have y2 : w2.cell? ⟨g2, 2, none⟩ = some (.slice A2 l2.length c2) := (blk_cell BF2.out 2).trans rfl; have y3 : w2.cell? ⟨g2, 3, none⟩ = some (.int .i64 a3) := (blk_cell BF2.out 3).trans rfl; have y4 : w2.cell? ⟨g2, 4, none⟩ = some (.int .i64 a4) := (blk_cell BF2.out 4).trans rfl; have y5 : w2.cell? ⟨g2, 5, none⟩ = some (.slice A5 l5.length c5) := (blk_cell BF2.out 5).trans rfl)
    | (clear T3; go_at_call 38; refine (load_any k A0 c0 ds A1 c1 ts id A3 c3 fs (⟨a0, a1, l2, a3, a4, l5⟩ : S32) A2 c2 A5 c5 1 _ (Kd.C_below HR0.out HB2.out) HL.out.1 (Kd.C_below HR1.out HB2.out) HL.out.2.1 (Kd.C_below HR3.out HB2.out) (Kd.C_below HR2.out HB2.out) HL.out.2.2.1 (Kd.C_below HR5.out HB2.out) HL.out.2.2.2 HLD.out).mono ?_; rintro e w3 ⟨hcase, hb⟩; obtain ⟨_, rfl⟩ := hcase.resolve_right (fun h => h.1 rfl); have HB3 := mk_ (below_step HB2.out hb); have BF3 := mk_ (blk_below BF2.out hb); clear hb HB2 hcase; have y'0 : w3.cell? ⟨g2, 0, none⟩ = some (.int .i64 a0) := (blk_cell BF3.out 0).trans rfl; have y'1 : w3.cell? ⟨g2, 1, none⟩ = some (.string a1) := (blk_cell BF3.out 1).trans rfl; have y'2 : w3.cell? ⟨g2, 2, none⟩ = some (.slice A2 l2.length c2) := (blk_cell BF3.out 2).trans rfl; have y'3 : w3.cell? ⟨g2, 3, none⟩ = some (.int .i64 a3) := (blk_cell BF3.out 3).trans rfl; have y'4 : w3.cell? ⟨g2, 4, none⟩ = some (.int .i64 a4) := (blk_cell BF3.out 4).trans rfl; have y'5 : w3.cell? ⟨g2, 5, none⟩ = some (.slice A5 l5.length c5) := (blk_cell BF3.out 5).trans rfl))
  go_ret2
  exact ⟨rfl, HB3.out⟩
 ·rw [if_neg h1] at h
  have HNE := mk_ h1
  by_cases hl : ts.length < 4398046511104
  case neg => rw [if_neg hl] at h; cases h
  rw [if_pos hl] at h
  have HTL := mk_ hl
  clear hl h1
  by_cases hi : insideB ts id co m = true
  ·have HIN := mk_ hi
   rw [if_pos hi] at h
   clear hi
   by_cases h0 : e = 0
   ·subst h0
    rw [if_pos rfl] at h
    obtain ⟨r, hr, h⟩ := Option.bind_eq_some_iff.1 h
    simp only [Option.some.injEq, Prod.mk.injEq] at h
    obtain ⟨rfl, rfl⟩ := h
    have HTR := mk_ hr
    clear hr
    go_enter Tryd.func14, Tryd.ntmps14
    go_wp2_with (first
      | (clear T1; (with_reducible refine gate_dst (N := 4) rfl ?_); refine bx_ 4 #[.slice A0 ds.length c0, .slice A1 ts.length c1, .int .i64 id, .slice A3 fs.length c3] 28 ?_; intro g1 hg w1 hbox hb; have HB1 := mk_ (below_step HB0.out hb); have BW1 := mk_ hbox; clear hb hbox hg HB0)
      | (clear T2; (with_reducible refine gate_dst (N := 5) rfl ?_); refine bx_ 5 #[.int .i64 a0, .string a1, .slice A2 l2.length c2, .int .i64 a3, .int .i64 a4, .slice A5 l5.length c5] 32 ?_; intro g2 hg w2 hbox hb; have HB2 := mk_ (below_step HB1.out hb); have BW2 := mk_ (blk_below BW1.out hb); have BF2 := mk_ hbox; clear hb hbox hg HB1 BW1; have x0 : w2.cell? ⟨g1, 0, none⟩ = some (.slice A0 ds.length c0) := (blk_cell BW2.out 0).trans rfl; have x1 : w2.cell? ⟨g1, 1, none⟩ = some (.slice A1 ts.length c1) := (blk_cell BW2.out 1).trans rfl; have x2 : w2.cell? ⟨g1, 2, none⟩ = some (.int .i64 id) := (blk_cell BW2.out 2).trans rfl; have x3 : w2.cell? ⟨g1, 3, none⟩ = some (.slice A3 fs.length c3) := (blk_cell BW2.out 3).trans rfl; have y0 : w2.cell? ⟨g2, 0, none⟩ = some (.int .i64 a0) := (blk_cell BF2.out 0).trans rfl; have y1 : w2.cell? ⟨g2, 1, none⟩ = some (.string a1) := (blk_cell BF2.out 1).trans rfl; have y2 : w2.cell? ⟨g2, 2, none⟩ = some (.slice A2 l2.length c2) := (blk_cell BF2.out 2).trans rfl; have y3 : w2.cell? ⟨g2, 3, none⟩ = some (.int .i64 a3) := (blk_cell BF2.out 3).trans rfl; have y4 : w2.cell? ⟨g2, 4, none⟩ = some (.int .i64 a4) := (blk_cell BF2.out 4).trans rfl; have y5 : w2.cell? ⟨g2, 5, none⟩ = some (.slice A5 l5.length c5) := (blk_cell BF2.out 5).trans rfl)
      | (clear T3; go_at_call 38; refine (load_any k A0 c0 ds A1 c1 ts id A3 c3 fs (⟨a0, a1, l2, a3, a4, l5⟩ : S32) A2 c2 A5 c5 0 _ (Kd.C_below HR0.out HB2.out) HL.out.1 (Kd.C_below HR1.out HB2.out) HL.out.2.1 (Kd.C_below HR3.out HB2.out) (Kd.C_below HR2.out HB2.out) HL.out.2.2.1 (Kd.C_below HR5.out HB2.out) HL.out.2.2.2 HLD.out).mono ?_; rintro e w3 ⟨hcase, hb⟩; obtain ⟨_, b, rfl, hgb, hmd⟩ := hcase.resolve_left (fun h => HNE.out h.1); have HB3 := mk_ (below_step HB2.out hb); have BF3 := mk_ (blk_below BF2.out hb); have HMD := mk_ hmd; clear hb HB2 hcase hgb hmd; have y'0 : w3.cell? ⟨g2, 0, none⟩ = some (.int .i64 a0) := (blk_cell BF3.out 0).trans rfl; have y'1 : w3.cell? ⟨g2, 1, none⟩ = some (.string a1) := (blk_cell BF3.out 1).trans rfl; have y'2 : w3.cell? ⟨g2, 2, none⟩ = some (.slice A2 l2.length c2) := (blk_cell BF3.out 2).trans rfl; have y'3 : w3.cell? ⟨g2, 3, none⟩ = some (.int .i64 a3) := (blk_cell BF3.out 3).trans rfl; have y'4 : w3.cell? ⟨g2, 4, none⟩ = some (.int .i64 a4) := (blk_cell BF3.out 4).trans rfl; have y'5 : w3.cell? ⟨g2, 5, none⟩ = some (.slice A5 l5.length c5) := (blk_cell BF3.out 5).trans rfl)
      | (clear T4; go_at_call 39; refine (inside_any b ds ts id fs co m _ HMD.out HTL.out).mono ?_; rintro e w4 ⟨rfl, rfl⟩; rw [HIN.out])
      | (clear T5; go_at_call 40; refine (truth_any ds ts id fs k b (⟨a0, a1, l2, a3, a4, l5⟩ : S32) A2 c2 A5 c5 [] none 0 co m r _ HMD.out (tb_on HTB.out HB3.out) (Kd.C_below HR2.out HB3.out) HL.out.2.2.1 (Kd.C_below HR5.out HB3.out) HL.out.2.2.2 (C_nil _) (Nat.le_refl _) HTR.out).mono ?_; rintro e w5 ⟨rfl, hb⟩; have HB5 := mk_ (below_step HB3.out hb); clear hb))
    go_ret2
    exact ⟨rfl, HB5.out⟩
   ·rw [if_neg h0] at h
    simp only [Option.some.injEq, Prod.mk.injEq] at h
    obtain ⟨rfl, rfl⟩ := h
    have d0 : (e == 0) = false := beq_eq_false_iff_ne.mpr h0
    have d1 : (e != 0) = true := bne_iff_ne.mpr h0
    clear h0
    go_enter Tryd.func14, Tryd.ntmps14
    go_wp2_with (first
      | (clear T1; (with_reducible refine gate_dst (N := 4) rfl ?_); refine bx_ 4 #[.slice A0 ds.length c0, .slice A1 ts.length c1, .int .i64 id, .slice A3 fs.length c3] 28 ?_; intro g1 hg w1 hbox hb; have HB1 := mk_ (below_step HB0.out hb); have BW1 := mk_ hbox; clear hb hbox hg HB0)
      | (clear T2; (with_reducible refine gate_dst (N := 5) rfl ?_); refine bx_ 5 #[.int .i64 a0, .string a1, .slice A2 l2.length c2, .int .i64 a3, .int .i64 a4, .slice A5 l5.length c5] 32 ?_; intro g2 hg w2 hbox hb; have HB2 := mk_ (below_step HB1.out hb); have BW2 := mk_ (blk_below BW1.out hb); have BF2 := mk_ hbox; clear hb hbox hg HB1 BW1; have x0 : w2.cell? ⟨g1, 0, none⟩ = some (.slice A0 ds.length c0) := (blk_cell BW2.out 0).trans rfl; have x1 : w2.cell? ⟨g1, 1, none⟩ = some (.slice A1 ts.length c1) := (blk_cell BW2.out 1).trans rfl; have x2 : w2.cell? ⟨g1, 2, none⟩ = some (.int .i64 id) := (blk_cell BW2.out 2).trans rfl; have x3 : w2.cell? ⟨g1, 3, none⟩ = some (.slice A3 fs.length c3) := (blk_cell BW2.out 3).trans rfl; have y0 : w2.cell? ⟨g2, 0, none⟩ = some (.int .i64 a0) := (blk_cell BF2.out 0).trans rfl; have y1 : w2.cell? ⟨g2, 1, none⟩ = some (.string a1) := (blk_cell BF2.out 1).trans rfl; have y2 : w2.cell? ⟨g2, 2, none⟩ = some (.slice A2 l2.length c2) := (blk_cell BF2.out 2).trans rfl; have y3 : w2.cell? ⟨g2, 3, none⟩ = some (.int .i64 a3) := (blk_cell BF2.out 3).trans rfl; have y4 : w2.cell? ⟨g2, 4, none⟩ = some (.int .i64 a4) := (blk_cell BF2.out 4).trans rfl; have y5 : w2.cell? ⟨g2, 5, none⟩ = some (.slice A5 l5.length c5) := (blk_cell BF2.out 5).trans rfl)
      | (clear T3; go_at_call 38; refine (load_any k A0 c0 ds A1 c1 ts id A3 c3 fs (⟨a0, a1, l2, a3, a4, l5⟩ : S32) A2 c2 A5 c5 e _ (Kd.C_below HR0.out HB2.out) HL.out.1 (Kd.C_below HR1.out HB2.out) HL.out.2.1 (Kd.C_below HR3.out HB2.out) (Kd.C_below HR2.out HB2.out) HL.out.2.2.1 (Kd.C_below HR5.out HB2.out) HL.out.2.2.2 HLD.out).mono ?_; rintro e w3 ⟨hcase, hb⟩; obtain ⟨_, b, rfl, hgb, hmd⟩ := hcase.resolve_left (fun h => HNE.out h.1); have HB3 := mk_ (below_step HB2.out hb); have BF3 := mk_ (blk_below BF2.out hb); have HMD := mk_ hmd; clear hb HB2 hcase hgb hmd; have y'0 : w3.cell? ⟨g2, 0, none⟩ = some (.int .i64 a0) := (blk_cell BF3.out 0).trans rfl; have y'1 : w3.cell? ⟨g2, 1, none⟩ = some (.string a1) := (blk_cell BF3.out 1).trans rfl; have y'2 : w3.cell? ⟨g2, 2, none⟩ = some (.slice A2 l2.length c2) := (blk_cell BF3.out 2).trans rfl; have y'3 : w3.cell? ⟨g2, 3, none⟩ = some (.int .i64 a3) := (blk_cell BF3.out 3).trans rfl; have y'4 : w3.cell? ⟨g2, 4, none⟩ = some (.int .i64 a4) := (blk_cell BF3.out 4).trans rfl; have y'5 : w3.cell? ⟨g2, 5, none⟩ = some (.slice A5 l5.length c5) := (blk_cell BF3.out 5).trans rfl)
      | (clear T4; go_at_call 39; refine (inside_any b ds ts id fs co m _ HMD.out HTL.out).mono ?_; rintro e w4 ⟨rfl, rfl⟩; rw [HIN.out]))
    go_ret2
    exact ⟨rfl, HB3.out⟩
  ·rw [if_neg hi] at h
   simp only [Option.some.injEq, Prod.mk.injEq] at h
   obtain ⟨rfl, rfl⟩ := h
   have HIN := mk_ (Bool.eq_false_iff.mpr hi)
   clear hi
   go_enter Tryd.func14, Tryd.ntmps14
   go_wp2_with (first
     | (clear T1; (with_reducible refine gate_dst (N := 4) rfl ?_); refine bx_ 4 #[.slice A0 ds.length c0, .slice A1 ts.length c1, .int .i64 id, .slice A3 fs.length c3] 28 ?_; intro g1 hg w1 hbox hb; have HB1 := mk_ (below_step HB0.out hb); have BW1 := mk_ hbox; clear hb hbox hg HB0)
     | (clear T2; (with_reducible refine gate_dst (N := 5) rfl ?_); refine bx_ 5 #[.int .i64 a0, .string a1, .slice A2 l2.length c2, .int .i64 a3, .int .i64 a4, .slice A5 l5.length c5] 32 ?_; intro g2 hg w2 hbox hb; have HB2 := mk_ (below_step HB1.out hb); have BW2 := mk_ (blk_below BW1.out hb); have BF2 := mk_ hbox; clear hb hbox hg HB1 BW1; have x0 : w2.cell? ⟨g1, 0, none⟩ = some (.slice A0 ds.length c0) := (blk_cell BW2.out 0).trans rfl; have x1 : w2.cell? ⟨g1, 1, none⟩ = some (.slice A1 ts.length c1) := (blk_cell BW2.out 1).trans rfl; have x2 : w2.cell? ⟨g1, 2, none⟩ = some (.int .i64 id) := (blk_cell BW2.out 2).trans rfl; have x3 : w2.cell? ⟨g1, 3, none⟩ = some (.slice A3 fs.length c3) := (blk_cell BW2.out 3).trans rfl; have y0 : w2.cell? ⟨g2, 0, none⟩ = some (.int .i64 a0) := (blk_cell BF2.out 0).trans rfl; have y1 : w2.cell? ⟨g2, 1, none⟩ = some (.string a1) := (blk_cell BF2.out 1).trans rfl; have y2 : w2.cell? ⟨g2, 2, none⟩ = some (.slice A2 l2.length c2) := (blk_cell BF2.out 2).trans rfl; have y3 : w2.cell? ⟨g2, 3, none⟩ = some (.int .i64 a3) := (blk_cell BF2.out 3).trans rfl; have y4 : w2.cell? ⟨g2, 4, none⟩ = some (.int .i64 a4) := (blk_cell BF2.out 4).trans rfl; have y5 : w2.cell? ⟨g2, 5, none⟩ = some (.slice A5 l5.length c5) := (blk_cell BF2.out 5).trans rfl)
     | (clear T3; go_at_call 38; refine (load_any k A0 c0 ds A1 c1 ts id A3 c3 fs (⟨a0, a1, l2, a3, a4, l5⟩ : S32) A2 c2 A5 c5 e _ (Kd.C_below HR0.out HB2.out) HL.out.1 (Kd.C_below HR1.out HB2.out) HL.out.2.1 (Kd.C_below HR3.out HB2.out) (Kd.C_below HR2.out HB2.out) HL.out.2.2.1 (Kd.C_below HR5.out HB2.out) HL.out.2.2.2 HLD.out).mono ?_; rintro e w3 ⟨hcase, hb⟩; obtain ⟨_, b, rfl, hgb, hmd⟩ := hcase.resolve_left (fun h => HNE.out h.1); have HB3 := mk_ (below_step HB2.out hb); have BF3 := mk_ (blk_below BF2.out hb); have HMD := mk_ hmd; clear hb HB2 hcase hgb hmd; have y'0 : w3.cell? ⟨g2, 0, none⟩ = some (.int .i64 a0) := (blk_cell BF3.out 0).trans rfl; have y'1 : w3.cell? ⟨g2, 1, none⟩ = some (.string a1) := (blk_cell BF3.out 1).trans rfl; have y'2 : w3.cell? ⟨g2, 2, none⟩ = some (.slice A2 l2.length c2) := (blk_cell BF3.out 2).trans rfl; have y'3 : w3.cell? ⟨g2, 3, none⟩ = some (.int .i64 a3) := (blk_cell BF3.out 3).trans rfl; have y'4 : w3.cell? ⟨g2, 4, none⟩ = some (.int .i64 a4) := (blk_cell BF3.out 4).trans rfl; have y'5 : w3.cell? ⟨g2, 5, none⟩ = some (.slice A5 l5.length c5) := (blk_cell BF3.out 5).trans rfl)
     | (clear T4; go_at_call 39; refine (inside_any b ds ts id fs co m _ HMD.out HTL.out).mono ?_; rintro e w4 ⟨rfl, rfl⟩; rw [HIN.out]))
   go_ret2
   exact ⟨rfl, HB3.out⟩
def evaluate_True.f (k : Nat) (ds : List S73) (ts : List Int) (id : Int) (fs : List S62) (a0 : Int) (a1 : ByteArray) (l2 : List S92) (a3 : Int) (a4 : Int) (l5 : List S32) : Option (Bool × Int) :=
 (loadG k ds ts id fs (⟨a0, a1, l2, a3, a4, l5⟩ : S32)).bind fun e => if e = 0 then (if ts.length < 4398046511104 then (someL true (fun i => truthG ds ts id fs k (⟨a0, a1, l2, a3, a4, l5⟩ : S32) [] 0 i) (2 * ts.length + 1) 0).bind fun r => some (r, 0) else none) else some (false, e)
theorem moment_any (k : Nat) (ds : List S73) (ts : List Int) (id : Int) (fs : List S62) (a0 : Int) (a1 : ByteArray) (A2 : Option Addr) (c2 : Nat) (l2 : List S92) (a3 : Int) (a4 : Int) (A5 : Option Addr) (c5 : Nat) (l5 : List S32) (b g2 g6 : Nat) (i : Int) (r : Bool) (w : World) (hmd : Md w b ds ts id fs) (htb : Tb w) (hr2 : Kd.C k92 w A2 l2.length l2) (hc2 : l2.length ≤ c2) (hr5 : Kd.C k32 w A5 l5.length l5) (hc5 : l5.length ≤ c5)
  (h6 : w.heap[g6]? = some (.cells #[.pointer (some ⟨b, 0, none⟩)] 76 (0, 0))) (h2 : w.heap[g2]? = some (.cells #[.int .i64 a0, .string a1, .slice A2 l2.length c2, .int .i64 a3, .int .i64 a4, .slice A5 l5.length c5] 32 (0, 0))) (h : truthG ds ts id fs k (⟨a0, a1, l2, a3, a4, l5⟩ : S32) [] 0 i = some r) :
  Calls Tryd.prog 43 #[.int .i64 i, .pointer (some ⟨g6, 0, none⟩), .pointer (some ⟨g2, 0, none⟩)] w fun e w' => e = .returned (.bool r) ∧ Below w.heap.size w w' := by
 have hu32 := Tryd.underlying32
 have x0 : w.cell? ⟨g6, 0, none⟩ = some (.pointer (some ⟨b, 0, none⟩)) := (blk_cell h6 0).trans rfl
 have y0 : w.cell? ⟨g2, 0, none⟩ = some (.int .i64 a0) := (blk_cell h2 0).trans rfl
 have y1 : w.cell? ⟨g2, 1, none⟩ = some (.string a1) := (blk_cell h2 1).trans rfl
 have y2 : w.cell? ⟨g2, 2, none⟩ = some (.slice A2 l2.length c2) := (blk_cell h2 2).trans rfl
 have y3 : w.cell? ⟨g2, 3, none⟩ = some (.int .i64 a3) := (blk_cell h2 3).trans rfl
 have y4 : w.cell? ⟨g2, 4, none⟩ = some (.int .i64 a4) := (blk_cell h2 4).trans rfl
 have y5 : w.cell? ⟨g2, 5, none⟩ = some (.slice A5 l5.length c5) := (blk_cell h2 5).trans rfl
 have HC := mk_ (truth_any ds ts id fs k b (⟨a0, a1, l2, a3, a4, l5⟩ : S32) A2 c2 A5 c5 [] none 0 0 i r w hmd htb hr2 hc2 hr5 hc5 (C_nil _) (Nat.le_refl _) h)
 clear hmd htb hr2 hc2 hr5 hc5 h6 h2 h
 go_enter Tryd.func43, Tryd.ntmps43
 go_wp2_with (go_at_call 40; refine HC.out.mono ?_; rintro e w1 ⟨rfl, hb⟩; have HB := mk_ hb; clear hb)
 go_ret
 exact ⟨rfl, HB.out⟩
theorem evaluate_True.calls (k : Nat) (A0 : Option Addr) (c0 : Nat) (ds : List S73) (A1 : Option Addr) (c1 : Nat) (ts : List Int) (id : Int) (A3 : Option Addr) (c3 : Nat) (fs : List S62) (a0 : Int) (a1 : ByteArray) (A2 : Option Addr) (c2 : Nat) (l2 : List S92) (a3 : Int) (a4 : Int) (A5 : Option Addr) (c5 : Nat) (l5 : List S32) (r1 : Bool) (r2 : Int) (w : World) (hr0 : Kd.C k73 w A0 ds.length ds) (hc0 : ds.length ≤ c0) (hr1 : Kd.C (Kd.int .i64) w A1 ts.length ts) (hc1 : ts.length ≤ c1) (hr3 : Kd.C k62 w A3 fs.length fs) (hc3 : fs.length ≤ c3) (hr2 : Kd.C k92 w A2 l2.length l2) (hc2 : l2.length ≤ c2) (hr5 : Kd.C k32 w A5 l5.length l5) (hc5 : l5.length ≤ c5) (h : evaluate_True.f k ds ts id fs a0 a1 l2 a3 a4 l5 = some (r1, r2)) (htb : Tb w) :
  Calls Tryd.prog 18 #[.agg #[.slice A0 ds.length c0, .slice A1 ts.length c1, .int .i64 id, .slice A3 fs.length c3], .agg #[.int .i64 a0, .string a1, .slice A2 l2.length c2, .int .i64 a3, .int .i64 a4, .slice A5 l5.length c5]] w fun e w' => e = .returned (.tuple #[.bool r1, .int .i64 r2]) ∧ Below w.heap.size w w' := by
 have hu25 := Tryd.underlying25
 have hu28 := Tryd.underlying28
 have hu32 := Tryd.underlying32
 have hu84 := Tryd.underlying84
 have HR0 := mk_ hr0
 have HR1 := mk_ hr1
 have HR2 := mk_ hr2
 have HR3 := mk_ hr3
 have HR5 := mk_ hr5
 have HTB := mk_ htb
 have HL := mk_ (And.intro hc0 (And.intro hc1 (And.intro hc2 hc5)))
 clear hr0 hr1 hr2 hr3 hr5 hc0 hc1 hc2 hc3 hc5 htb
 have HB0 := mk_ (Below.refl w.heap.size w)
 have T1 : True := trivial
 have T2 : True := trivial
 have T3 : True := trivial
 have T4 : True := trivial
 have T5 : True := trivial
 have T6 : True := trivial
 have T7 : True := trivial
 have T8 : True := trivial
 have eg43 : ∀ (args : Array Value) (w : World), (callFunc 43 args).run Tryd.prog w = .ok (.enter 43 args) w := enters_of Tryd.func43 (by kernel_rfl) rfl
 unfold evaluate_True.f at h
 obtain ⟨e, he, h⟩ := Option.bind_eq_some_iff.1 h
 have HLD := mk_ he
 clear he
 by_cases h0 : e = 0
 ·subst h0
  rw [if_pos rfl] at h
  by_cases hl : ts.length < 4398046511104
  case neg => rw [if_neg hl] at h; cases h
  rw [if_pos hl] at h
  have HTL := mk_ hl
  obtain ⟨r, hr, h⟩ := Option.bind_eq_some_iff.1 h
  simp only [Option.some.injEq, Prod.mk.injEq] at h
  obtain ⟨rfl, rfl⟩ := h
  have HTR := mk_ hr
  have HNE : Aside0 (¬ (0 : Int) = 1) := ⟨by decide⟩
  have e1 : wrap64 (wrap64 (2 * (ts.length : Int)) + 1) = 2 * (ts.length : Int) + 1 := by unfold wrap64; omega
  have e2 : wrap64 (2 * (ts.length : Int)) = 2 * (ts.length : Int) := by unfold wrap64; omega
  have e3 : wrap64 (2 * (ts.length : Int) + 1) = 2 * (ts.length : Int) + 1 := by unfold wrap64; omega
  clear hr hl
  go_enter Tryd.func18, Tryd.ntmps18
  go_upto_region 4 with (first
    | (clear T1; (with_reducible refine gate_dst (N := 2) rfl ?_); refine bx_ 2 #[.slice A0 ds.length c0, .slice A1 ts.length c1, .int .i64 id, .slice A3 fs.length c3] 28 ?_; intro g1 hg w1 hbox hb; have HB1 := mk_ (below_step HB0.out hb); have BW1 := mk_ hbox; clear hb hbox hg HB0)
    | (clear T2; (with_reducible refine gate_dst (N := 3) rfl ?_); refine bx_ 3 #[.int .i64 a0, .string a1, .slice A2 l2.length c2, .int .i64 a3, .int .i64 a4, .slice A5 l5.length c5] 32 ?_; intro g2 hg w2 hbox hb; have HB2 := mk_ (below_step HB1.out hb); have BW2 := mk_ (blk_below BW1.out hb); have BF2 := mk_ hbox; clear hb hbox hg HB1 BW1; have x0 : w2.cell? ⟨g1, 0, none⟩ = some (.slice A0 ds.length c0) := (blk_cell BW2.out 0).trans rfl; have x1 : w2.cell? ⟨g1, 1, none⟩ = some (.slice A1 ts.length c1) := (blk_cell BW2.out 1).trans rfl; have x2 : w2.cell? ⟨g1, 2, none⟩ = some (.int .i64 id) := (blk_cell BW2.out 2).trans rfl; have x3 : w2.cell? ⟨g1, 3, none⟩ = some (.slice A3 fs.length c3) := (blk_cell BW2.out 3).trans rfl; have y0 : w2.cell? ⟨g2, 0, none⟩ = some (.int .i64 a0) := (blk_cell BF2.out 0).trans rfl; have y1 : w2.cell? ⟨g2, 1, none⟩ = some (.string a1) := (blk_cell BF2.out 1).trans rfl; have y2 : w2.cell? ⟨g2, 2, none⟩ = some (.slice A2 l2.length c2) := (blk_cell BF2.out 2).trans rfl; have y3 : w2.cell? ⟨g2, 3, none⟩ = some (.int .i64 a3) := (blk_cell BF2.out 3).trans rfl; have y4 : w2.cell? ⟨g2, 4, none⟩ = some (.int .i64 a4) := (blk_cell BF2.out 4).trans rfl; have y5 : w2.cell? ⟨g2, 5, none⟩ = some (.slice A5 l5.length c5) := (blk_cell BF2.out 5).trans rfl)
    | (clear T3; go_at_call 38; refine (load_any k A0 c0 ds A1 c1 ts id A3 c3 fs (⟨a0, a1, l2, a3, a4, l5⟩ : S32) A2 c2 A5 c5 0 _ (Kd.C_below HR0.out HB2.out) HL.out.1 (Kd.C_below HR1.out HB2.out) HL.out.2.1 (Kd.C_below HR3.out HB2.out) (Kd.C_below HR2.out HB2.out) HL.out.2.2.1 (Kd.C_below HR5.out HB2.out) HL.out.2.2.2 HLD.out).mono ?_; rintro e w3 ⟨hcase, hb⟩; obtain ⟨_, b, rfl, hgb, hmd⟩ := hcase.resolve_left (fun h => HNE.out h.1); have HB3 := mk_ (below_step HB2.out hb); have BF3 := mk_ (blk_below BF2.out hb); have HMD := mk_ hmd; clear hb HB2 hcase hgb hmd; have y'0 : w3.cell? ⟨g2, 0, none⟩ = some (.int .i64 a0) := (blk_cell BF3.out 0).trans rfl; have y'1 : w3.cell? ⟨g2, 1, none⟩ = some (.string a1) := (blk_cell BF3.out 1).trans rfl; have y'2 : w3.cell? ⟨g2, 2, none⟩ = some (.slice A2 l2.length c2) := (blk_cell BF3.out 2).trans rfl; have y'3 : w3.cell? ⟨g2, 3, none⟩ = some (.int .i64 a3) := (blk_cell BF3.out 3).trans rfl; have y'4 : w3.cell? ⟨g2, 4, none⟩ = some (.int .i64 a4) := (blk_cell BF3.out 4).trans rfl; have y'5 : w3.cell? ⟨g2, 5, none⟩ = some (.slice A5 l5.length c5) := (blk_cell BF3.out 5).trans rfl))
  generalize hW : w3.alloc (.cells #[.pointer (some ⟨b, 0, none⟩)] 76) = w4
  have hb4 : Below w3.heap.size w3 w4 := by rw [← hW]; exact below_alloc (Below.refl _ _) _
  have HB4 := mk_ (below_step HB3.out hb4)
  have BF4 := mk_ (blk_below BF3.out hb4)
  have HMD4 := mk_ (Md_below HMD.out hb4)
  have BP4 : Aside0 (w4.heap[w3.heap.size]? = some (.cells #[.pointer (some ⟨b, 0, none⟩)] 76 (0, 0))) := ⟨by rw [← hW]; exact heap_alloc_new _ _⟩
  clear hW hb4
  have p0 : w4.cell? ⟨w3.heap.size, 0, none⟩ = some (.pointer (some ⟨b, 0, none⟩)) := (blk_cell BP4.out 0).trans rfl
  obtain ⟨M0, d0, M1, d1, mb, nm, hm, _⟩ := HMD4.out
  have m1 : w4.cell? ⟨b, 1, none⟩ = some (.slice M1 ts.length d1) := (blk_cell hm 1).trans rfl
  clear hm
  go_wp2_with (go_at_call 42; refine (some_any 43 #[.pointer (some ⟨w3.heap.size, 0, none⟩), .pointer (some ⟨g2, 0, none⟩)] true (fun i => truthG ds ts id fs k (⟨a0, a1, l2, a3, a4, l5⟩ : S32) [] 0 i) 0 (2 * (ts.length : Int) + 1) r _ eg43 (fun W i q hW h0 h1 hq => moment_any k ds ts id fs a0 a1 A2 c2 l2 a3 a4 A5 c5 l5 b g2 w3.heap.size i q W (Md_below HMD4.out hW) (tb_on HTB.out (below_step HB4.out hW)) (Kd.C_below HR2.out (below_step HB4.out hW)) HL.out.2.2.1 (Kd.C_below HR5.out (below_step HB4.out hW)) HL.out.2.2.2 (blk_below BP4.out hW) (blk_below BF4.out hW) hq) (by decide) (by have := HTL.out; omega) (by rw [show (2 * (ts.length : Int) + 1 - 0).toNat = 2 * ts.length + 1 by omega]; exact HTR.out)).mono ?_; rintro e w5 ⟨rfl, hb⟩; have HB5 := mk_ (below_step HB4.out hb); clear hb)
  go_ret2
  exact ⟨rfl, HB5.out⟩
 ·rw [if_neg h0] at h
  simp only [Option.some.injEq, Prod.mk.injEq] at h
  obtain ⟨rfl, rfl⟩ := h
  have d1 : (e != 0) = true := bne_iff_ne.mpr h0
  clear h0
  by_cases h1 : e = 1
  ·subst h1
   go_enter Tryd.func18, Tryd.ntmps18
   go_wp2_with (first
     | (clear T1; (with_reducible refine gate_dst (N := 2) rfl ?_); refine bx_ 2 #[.slice A0 ds.length c0, .slice A1 ts.length c1, .int .i64 id, .slice A3 fs.length c3] 28 ?_; intro g1 hg w1 hbox hb; have HB1 := mk_ (below_step HB0.out hb); have BW1 := mk_ hbox; clear hb hbox hg HB0)
     | (clear T2; (with_reducible refine gate_dst (N := 3) rfl ?_); refine bx_ 3 #[.int .i64 a0, .string a1, .slice A2 l2.length c2, .int .i64 a3, .int .i64 a4, .slice A5 l5.length c5] 32 ?_; intro g2 hg w2 hbox hb; have HB2 := mk_ (below_step HB1.out hb); have BW2 := mk_ (blk_below BW1.out hb); have BF2 := mk_ hbox; clear hb hbox hg HB1 BW1; have x0 : w2.cell? ⟨g1, 0, none⟩ = some (.slice A0 ds.length c0) := (blk_cell BW2.out 0).trans rfl; have x1 : w2.cell? ⟨g1, 1, none⟩ = some (.slice A1 ts.length c1) := (blk_cell BW2.out 1).trans rfl; have x2 : w2.cell? ⟨g1, 2, none⟩ = some (.int .i64 id) := (blk_cell BW2.out 2).trans rfl; have x3 : w2.cell? ⟨g1, 3, none⟩ = some (.slice A3 fs.length c3) := (blk_cell BW2.out 3).trans rfl; have y0 : w2.cell? ⟨g2, 0, none⟩ = some (.int .i64 a0) := (blk_cell BF2.out 0).trans rfl; have y1 : w2.cell? ⟨g2, 1, none⟩ = some (.string a1) := (blk_cell BF2.out 1).trans rfl; have y2 : w2.cell? ⟨g2, 2, none⟩ = some (.slice A2 l2.length c2) := (blk_cell BF2.out 2).trans rfl; have y3 : w2.cell? ⟨g2, 3, none⟩ = some (.int .i64 a3) := (blk_cell BF2.out 3).trans rfl; have y4 : w2.cell? ⟨g2, 4, none⟩ = some (.int .i64 a4) := (blk_cell BF2.out 4).trans rfl; have y5 : w2.cell? ⟨g2, 5, none⟩ = some (.slice A5 l5.length c5) := (blk_cell BF2.out 5).trans rfl)
     | (clear T3; go_at_call 38; refine (load_any k A0 c0 ds A1 c1 ts id A3 c3 fs (⟨a0, a1, l2, a3, a4, l5⟩ : S32) A2 c2 A5 c5 1 _ (Kd.C_below HR0.out HB2.out) HL.out.1 (Kd.C_below HR1.out HB2.out) HL.out.2.1 (Kd.C_below HR3.out HB2.out) (Kd.C_below HR2.out HB2.out) HL.out.2.2.1 (Kd.C_below HR5.out HB2.out) HL.out.2.2.2 HLD.out).mono ?_; rintro e w3 ⟨hcase, hb⟩; obtain ⟨_, rfl⟩ := hcase.resolve_right (fun h => h.1 rfl); have HB3 := mk_ (below_step HB2.out hb); have BF3 := mk_ (blk_below BF2.out hb); clear hb HB2 hcase; have y'0 : w3.cell? ⟨g2, 0, none⟩ = some (.int .i64 a0) := (blk_cell BF3.out 0).trans rfl; have y'1 : w3.cell? ⟨g2, 1, none⟩ = some (.string a1) := (blk_cell BF3.out 1).trans rfl; have y'2 : w3.cell? ⟨g2, 2, none⟩ = some (.slice A2 l2.length c2) := (blk_cell BF3.out 2).trans rfl; have y'3 : w3.cell? ⟨g2, 3, none⟩ = some (.int .i64 a3) := (blk_cell BF3.out 3).trans rfl; have y'4 : w3.cell? ⟨g2, 4, none⟩ = some (.int .i64 a4) := (blk_cell BF3.out 4).trans rfl; have y'5 : w3.cell? ⟨g2, 5, none⟩ = some (.slice A5 l5.length c5) := (blk_cell BF3.out 5).trans rfl))
   go_ret2
   exact ⟨rfl, by repeat (first | exact HB3.out | apply below_alloc | apply below_drew)⟩
  ·have HNE := mk_ h1
   clear h1
   go_enter Tryd.func18, Tryd.ntmps18
   go_wp2_with (first
     | (clear T1; (with_reducible refine gate_dst (N := 2) rfl ?_); refine bx_ 2 #[.slice A0 ds.length c0, .slice A1 ts.length c1, .int .i64 id, .slice A3 fs.length c3] 28 ?_; intro g1 hg w1 hbox hb; have HB1 := mk_ (below_step HB0.out hb); have BW1 := mk_ hbox; clear hb hbox hg HB0)
     | (clear T2; (with_reducible refine gate_dst (N := 3) rfl ?_); refine bx_ 3 #[.int .i64 a0, .string a1, .slice A2 l2.length c2, .int .i64 a3, .int .i64 a4, .slice A5 l5.length c5] 32 ?_; intro g2 hg w2 hbox hb; have HB2 := mk_ (below_step HB1.out hb); have BW2 := mk_ (blk_below BW1.out hb); have BF2 := mk_ hbox; clear hb hbox hg HB1 BW1; have x0 : w2.cell? ⟨g1, 0, none⟩ = some (.slice A0 ds.length c0) := (blk_cell BW2.out 0).trans rfl; have x1 : w2.cell? ⟨g1, 1, none⟩ = some (.slice A1 ts.length c1) := (blk_cell BW2.out 1).trans rfl; have x2 : w2.cell? ⟨g1, 2, none⟩ = some (.int .i64 id) := (blk_cell BW2.out 2).trans rfl; have x3 : w2.cell? ⟨g1, 3, none⟩ = some (.slice A3 fs.length c3) := (blk_cell BW2.out 3).trans rfl; have y0 : w2.cell? ⟨g2, 0, none⟩ = some (.int .i64 a0) := (blk_cell BF2.out 0).trans rfl; have y1 : w2.cell? ⟨g2, 1, none⟩ = some (.string a1) := (blk_cell BF2.out 1).trans rfl; have y2 : w2.cell? ⟨g2, 2, none⟩ = some (.slice A2 l2.length c2) := (blk_cell BF2.out 2).trans rfl; have y3 : w2.cell? ⟨g2, 3, none⟩ = some (.int .i64 a3) := (blk_cell BF2.out 3).trans rfl; have y4 : w2.cell? ⟨g2, 4, none⟩ = some (.int .i64 a4) := (blk_cell BF2.out 4).trans rfl; have y5 : w2.cell? ⟨g2, 5, none⟩ = some (.slice A5 l5.length c5) := (blk_cell BF2.out 5).trans rfl)
     | (clear T3; go_at_call 38; refine (load_any k A0 c0 ds A1 c1 ts id A3 c3 fs (⟨a0, a1, l2, a3, a4, l5⟩ : S32) A2 c2 A5 c5 e _ (Kd.C_below HR0.out HB2.out) HL.out.1 (Kd.C_below HR1.out HB2.out) HL.out.2.1 (Kd.C_below HR3.out HB2.out) (Kd.C_below HR2.out HB2.out) HL.out.2.2.1 (Kd.C_below HR5.out HB2.out) HL.out.2.2.2 HLD.out).mono ?_; rintro e w3 ⟨hcase, hb⟩; obtain ⟨_, b, rfl, hgb, hmd⟩ := hcase.resolve_left (fun h => HNE.out h.1); have HB3 := mk_ (below_step HB2.out hb); have BF3 := mk_ (blk_below BF2.out hb); have HMD := mk_ hmd; clear hb HB2 hcase hgb hmd; have y'0 : w3.cell? ⟨g2, 0, none⟩ = some (.int .i64 a0) := (blk_cell BF3.out 0).trans rfl; have y'1 : w3.cell? ⟨g2, 1, none⟩ = some (.string a1) := (blk_cell BF3.out 1).trans rfl; have y'2 : w3.cell? ⟨g2, 2, none⟩ = some (.slice A2 l2.length c2) := (blk_cell BF3.out 2).trans rfl; have y'3 : w3.cell? ⟨g2, 3, none⟩ = some (.int .i64 a3) := (blk_cell BF3.out 3).trans rfl; have y'4 : w3.cell? ⟨g2, 4, none⟩ = some (.int .i64 a4) := (blk_cell BF3.out 4).trans rfl; have y'5 : w3.cell? ⟨g2, 5, none⟩ = some (.slice A5 l5.length c5) := (blk_cell BF3.out 5).trans rfl))
   go_ret2
   exact ⟨rfl, by repeat (first | exact HB3.out | apply below_alloc | apply below_drew)⟩
def evaluate_Moments.l0 : Nat → Int → List Int → Int → Option (List Int × Int)
 | 0, _, _, _ => none
 | k + 1, x9, x11, x12 => if x12 < x9 then (if x11.length < 17592186044416 then (evaluate_Moments.l0 k x9 (x11 ++ [x12]) (wrap64 (x12 + 1))) else (none)) else (some (x11, 0))
def evaluate_Moments.f (k : Nat) (l0_0 : List (S73)) (l0_1 : List Int) (a0_2 : Int) (l0_3 : List (S62)) (a1 : Int) (a2 : Int) : Option (List Int × Int) := (evaluate_proper.f l0_0 l0_1 a0_2).bind fun t169 => (if t169 = true then ((evaluate_interval.f k l0_0 l0_1 a0_2 a1 a2).bind fun bt170 => (if bt170.2.2 = true then (evaluate_Moments.l0 k bt170.2.1 ([] : List Int) bt170.1) else (some (([] : List Int), 1)))) else (some (([] : List Int), 1)))
theorem evaluate_Moments.calls (k : Nat) (A0_0 : Option Addr) (c0_0 : Nat) (l0_0 : List (S73)) (A0_1 : Option Addr) (c0_1 : Nat) (l0_1 : List Int) (a0_2 : Int) (A0_3 : Option Addr) (c0_3 : Nat) (l0_3 : List (S62)) (a1 : Int) (a2 : Int) (r1 : List Int) (r2 : Int) (w : World) (hr0_0 : Kd.C k73 w A0_0 l0_0.length l0_0) (hc0_0 : l0_0.length ≤ c0_0) (hr0_1 : Kd.C (Kd.int .i64) w A0_1 l0_1.length l0_1) (hc0_1 : l0_1.length ≤ c0_1) (hr0_3 : Kd.C k62 w A0_3 l0_3.length l0_3) (hc0_3 : l0_3.length ≤ c0_3) (h : evaluate_Moments.f k l0_0 l0_1 a0_2 l0_3 a1 a2 = some (r1, r2)) :
  Calls Tryd.prog 22 #[.agg #[.slice A0_0 l0_0.length c0_0, .slice A0_1 l0_1.length c0_1, .int .i64 a0_2, .slice A0_3 l0_3.length c0_3], .int .i64 a1, .int .i64 a2] w fun e w' => ∃ v0_ : Value, e = .returned (.tuple #[v0_, .int .i64 r2]) ∧ Kd.R (Kd.int .i64) 3 w' w.heap.size (fun _ => True) v0_ r1 ∧ Below w.heap.size w w' := by
 have hu28 := Tryd.underlying28
 have hu25 := Tryd.underlying25
 have HR0_0 := mk_ hr0_0; have HC0_0 := mk_ hc0_0; clear hr0_0 hc0_0
 have HR0_1 := mk_ hr0_1; have HC0_1 := mk_ hc0_1; clear hr0_1 hc0_1
 have HR0_3 := mk_ hr0_3; have HC0_3 := mk_ hc0_3; clear hr0_3 hc0_3
 have HB := mk_ (Below.refl w.heap.size w)
 have H : ((evaluate_proper.f l0_0 l0_1 a0_2).bind fun t169 => (if t169 = true then ((evaluate_interval.f k l0_0 l0_1 a0_2 a1 a2).bind fun bt170 => (if bt170.2.2 = true then (evaluate_Moments.l0 k bt170.2.1 ([] : List Int) bt170.1) else (some (([] : List Int), 1)))) else (some (([] : List Int), 1)))) = some (r1, r2) := h
 clear h
 replace H := Option.bind_eq_some_iff.mp H
 obtain ⟨t169, A40, H⟩ := H
 replace H : (if t169 = true then ((evaluate_interval.f k l0_0 l0_1 a0_2 a1 a2).bind fun bt170 => (if bt170.2.2 = true then (evaluate_Moments.l0 k bt170.2.1 ([] : List Int) bt170.1) else (some (([] : List Int), 1)))) else (some (([] : List Int), 1))) = some (r1, r2) := H
 have A4 := mk_ A40
 clear A40
 by_cases c5 : t169 = true
 ·subst c5
  rw [if_pos rfl] at H
  replace H := Option.bind_eq_some_iff.mp H
  obtain ⟨⟨t170, t171, t172⟩, A60, H⟩ := H
  replace H : (if t172 = true then (evaluate_Moments.l0 k t171 ([] : List Int) t170) else (some (([] : List Int), 1))) = some (r1, r2) := H
  have A6 := mk_ A60
  clear A60
  by_cases c7 : t172 = true
  ·subst c7
   rw [if_pos rfl] at H
   have H' := mk_ H
   clear H
   go_enter Tryd.func22, Tryd.ntmps22
   go_wp2_with (first | ((with_reducible refine gate_dst (N := 3) rfl ?_); refine bx_ 3 #[.slice A0_0 l0_0.length c0_0, .slice A0_1 l0_1.length c0_1, .int .i64 a0_2, .slice A0_3 l0_3.length c0_3] 28 ?_; intro gb168 hg w8 hbox hb; have BK168 := mk_ (hbox); have GW168 := mk_ (gs_ hg (be_ HB)); have GE168 := mk_ (gs_ hg (be_ HB)); replace HB := mk_ (below_step (be_ HB) hb); clear hb hbox hg; obtain ⟨_, _, _, _, _, _, _, _⟩ := hb4_ BK168) | ((with_reducible refine gate_callee (f := 44) rfl ?_); refine gl_ (some 15) Tryd.func44 #[.agg #[.slice A0_0 l0_0.length c0_0, .slice A0_1 l0_1.length c0_1, .int .i64 a0_2]] ?_; (with_reducible refine (evaluate_proper.calls _ _ l0_0 _ _ l0_1 a0_2 true _ ?side1 ?side2 ?side3 ?side4 A4.out).mono ?_); (case side1 => exact cs_ (Kd.C_below HR0_0.out HB.out)); (case side2 => exact HC0_0.out); (case side3 => exact cs_ (Kd.C_below HR0_1.out HB.out)); (case side4 => exact HC0_1.out); rintro e w10 ⟨rfl, hb⟩; refine ⟨_, rfl, ?_⟩; replace BK168 := mk_ (bb_ BK168 hb); replace HB := mk_ (below_step (be1_ HB GE168) hb); obtain ⟨_, _, _, _, _, _, _, _⟩ := hb4_ BK168) | ((with_reducible refine gate_callee (f := 45) rfl ?_); refine gl_ (some 22) Tryd.func45 #[.agg #[.slice A0_0 l0_0.length c0_0, .slice A0_1 l0_1.length c0_1, .int .i64 a0_2], .int .i64 a1, .int .i64 a2] ?_; (with_reducible refine (evaluate_interval.calls k _ _ l0_0 _ _ l0_1 a0_2 a1 a2 t170 t171 true _ ?side1 ?side2 ?side3 ?side4 A6.out).mono ?_); (case side1 => exact cs_ (Kd.C_below HR0_0.out HB.out)); (case side2 => exact HC0_0.out); (case side3 => exact cs_ (Kd.C_below HR0_1.out HB.out)); (case side4 => exact HC0_1.out); rintro e w12 ⟨rfl, hb⟩; refine ⟨_, rfl, ?_⟩; replace BK168 := mk_ (bb_ BK168 hb); replace HB := mk_ (below_step (be1_ HB GE168) hb)))
   go_loopg [11, 12] k (fun kq v11 v12 w' => ∃ (x11_1 : List Int) (x12_1 : Int), v12 = .int .i64 x12_1 ∧ Aside0 (evaluate_Moments.l0 kq t171 x11_1 x12_1 = some (r1, r2)) ∧ Aside0 (kq ≤ k) ∧ Aside0 (Kd.R (Kd.int .i64) 3 w' w.heap.size (fun _ => True) v11 x11_1) ∧ Aside0 (w'.heap[gb168]? = some (.cells #[(.slice A0_0 l0_0.length c0_0), (.slice A0_1 l0_1.length c0_1), .int .i64 a0_2, (.slice A0_3 l0_3.length c0_3)] 28 (0, 0))) ∧ Aside0 (Below w.heap.size w w'))
   case atStart => exact ⟨(([] : List Int)), (t170), fi_, H', ⟨Nat.le_refl _⟩, ⟨by first | exact Kd.R_nil _ _ _ _ _ | exact Kd.N_nil _ _ _ _ _ | exact Kd.V_nil _ _ _ _ _ | exact Kd.Q_nil _ _ _ _ _ | exact Kd.S_nil _ _ _ _ _⟩, ⟨bq_ BK168⟩, ⟨be1_ HB GE168⟩⟩
   case round =>
    clear H'
    obtain ⟨x11_1, x12_1, rfl, HA, HK1, HO_11, BK168, HB⟩ := hrel
    cases gk with
    | zero => exact absurd HA.out (by simp [evaluate_Moments.l0])
    | succ k1 =>
     have H := HA.out
     clear HA
     simp only [evaluate_Moments.l0] at H
     by_cases c13 : x12_1 < t171
     ·rw [if_pos c13] at H
      have c13b0 : decide (x12_1 < t171) = true := decide_eq_true c13
      clear c13
      by_cases c14 : x11_1.length < 17592186044416
      ·rw [if_pos c14] at H
       have LMc14 := mk_ c14
       clear c14
       obtain ⟨y173, hy173⟩ : ∃ y_ : List Int, y_ = (x11_1 ++ [x12_1]) := ⟨_, rfl⟩
       replace H : (evaluate_Moments.l0 k1 t171 y173 (wrap64 (x12_1 + 1))) = some (r1, r2) := by first | (rw [hy173]; with_reducible exact H) | (have H2_ := (Option.bind_some _ _).symm.trans H; rw [hy173]; with_reducible exact H2_) | (have H2_ := (Option.bind_some _ _).symm.trans H; with_reducible exact H2_) | with_reducible exact H | (rw [hy173]; exact H) | exact H
       have Ny173 := mk_ hy173
       clear hy173
       have H' := mk_ H
       clear H
       go_wp2_with (first | ((with_reducible refine gate_builtin (b := .append) (xs := #[.tmp 34, .tmp 36]) rfl ?_); at_builtin; refine Kd.R_append (Kd.int .i64) (w0 := w) w.heap.size rfl (.tmp 34) (.tmp 36) 23 3 (.int .i64 0) 8 rfl Tryd.underlying23 info3 rfl (by decide) (by omega) u11 x11_1 x12_1 [.int .i64 x12_1] (fun _ => True) (fun _ => False) rfl rfl ?aP (fun _ hk => hk.elim) ?aF ?aO ?aB ?aS ?aL ?_; (case aP => exact rfl); (case aB => exact (be1_ HB GE168)); (case aF => exact (fun _ _ => trivial)); (case aO => exact (rq_ HO_11)); (case aS => exact (below_size (be1_ HB GE168))); (case aL => have := LMc14.out; omega); intro v174 w15 ho hb hg hat; rw [← Ny173.out] at ho; have HO175 := mk_ (ho); replace BK168 := mk_ (blk_grown (g := gb168) (o := .cells #[.slice A0_0 l0_0.length c0_0, .slice A0_1 l0_1.length c0_1, .int .i64 a0_2, .slice A0_3 l0_3.length c0_3] 28 (0, 0)) (bq_ BK168) hg (Kd.R_ne HO_11.out BK168.out (by decide))); replace HB := mk_ (hb); clear HO_11; clear ho hb hg hat))
       go_roundg k1
       case measure => have := HK1.out; omega
       case rel => exact ⟨(y173), (wrap64 (x12_1 + 1)), fi_, H', ⟨by have := HK1.out; omega⟩, ⟨rq_ HO175⟩, ⟨bq_ BK168⟩, ⟨be1_ HB GE168⟩⟩
      ·rw [if_neg c14] at H
       exact absurd H (by simp)
     ·rw [if_neg c13] at H
      have c13b0 : decide (x12_1 < t171) = false := decide_eq_false c13
      clear c13
      simp only [Option.some.injEq, Prod.mk.injEq] at H
      obtain ⟨rfl, rfl⟩ := H
      go_wp2
      go_ret2
      exact ⟨_, er_, by refine sr_ ?_; exact HO_11.out, be1_ HB GE168⟩
  ·replace c7 := Bool.eq_false_iff.mpr c7
   subst c7
   rw [if_neg nf_] at H
   simp only [Option.some.injEq, Prod.mk.injEq] at H
   obtain ⟨rfl, rfl⟩ := H
   go_enter Tryd.func22, Tryd.ntmps22
   go_wp2_with (first | ((with_reducible refine gate_dst (N := 3) rfl ?_); refine bx_ 3 #[.slice A0_0 l0_0.length c0_0, .slice A0_1 l0_1.length c0_1, .int .i64 a0_2, .slice A0_3 l0_3.length c0_3] 28 ?_; intro gb168 hg w16 hbox hb; have BK168 := mk_ (hbox); have GW168 := mk_ (gs_ hg (be_ HB)); have GE168 := mk_ (gs_ hg (be_ HB)); replace HB := mk_ (below_step (be_ HB) hb); clear hb hbox hg; obtain ⟨_, _, _, _, _, _, _, _⟩ := hb4_ BK168) | ((with_reducible refine gate_callee (f := 44) rfl ?_); refine gl_ (some 15) Tryd.func44 #[.agg #[.slice A0_0 l0_0.length c0_0, .slice A0_1 l0_1.length c0_1, .int .i64 a0_2]] ?_; (with_reducible refine (evaluate_proper.calls _ _ l0_0 _ _ l0_1 a0_2 true _ ?side1 ?side2 ?side3 ?side4 A4.out).mono ?_); (case side1 => exact cs_ (Kd.C_below HR0_0.out HB.out)); (case side2 => exact HC0_0.out); (case side3 => exact cs_ (Kd.C_below HR0_1.out HB.out)); (case side4 => exact HC0_1.out); rintro e w18 ⟨rfl, hb⟩; refine ⟨_, rfl, ?_⟩; replace BK168 := mk_ (bb_ BK168 hb); replace HB := mk_ (below_step (be1_ HB GE168) hb); obtain ⟨_, _, _, _, _, _, _, _⟩ := hb4_ BK168) | ((with_reducible refine gate_callee (f := 45) rfl ?_); refine gl_ (some 22) Tryd.func45 #[.agg #[.slice A0_0 l0_0.length c0_0, .slice A0_1 l0_1.length c0_1, .int .i64 a0_2], .int .i64 a1, .int .i64 a2] ?_; (with_reducible refine (evaluate_interval.calls k _ _ l0_0 _ _ l0_1 a0_2 a1 a2 t170 t171 false _ ?side1 ?side2 ?side3 ?side4 A6.out).mono ?_); (case side1 => exact cs_ (Kd.C_below HR0_0.out HB.out)); (case side2 => exact HC0_0.out); (case side3 => exact cs_ (Kd.C_below HR0_1.out HB.out)); (case side4 => exact HC0_1.out); rintro e w20 ⟨rfl, hb⟩; refine ⟨_, rfl, ?_⟩; replace BK168 := mk_ (bb_ BK168 hb); replace HB := mk_ (below_step (be1_ HB GE168) hb)))
   go_ret2
   exact ⟨_, er_, by first | exact Kd.R_nil _ _ _ _ _ | exact Kd.N_nil _ _ _ _ _ | exact Kd.V_nil _ _ _ _ _ | exact Kd.Q_nil _ _ _ _ _ | exact Kd.S_nil _ _ _ _ _, be1_ HB GE168⟩
 ·replace c5 := Bool.eq_false_iff.mpr c5
  subst c5
  rw [if_neg nf_] at H
  simp only [Option.some.injEq, Prod.mk.injEq] at H
  obtain ⟨rfl, rfl⟩ := H
  go_enter Tryd.func22, Tryd.ntmps22
  go_wp2_with (first | ((with_reducible refine gate_dst (N := 3) rfl ?_); refine bx_ 3 #[.slice A0_0 l0_0.length c0_0, .slice A0_1 l0_1.length c0_1, .int .i64 a0_2, .slice A0_3 l0_3.length c0_3] 28 ?_; intro gb168 hg w21 hbox hb; have BK168 := mk_ (hbox); have GW168 := mk_ (gs_ hg (be_ HB)); have GE168 := mk_ (gs_ hg (be_ HB)); replace HB := mk_ (below_step (be_ HB) hb); clear hb hbox hg; obtain ⟨_, _, _, _, _, _, _, _⟩ := hb4_ BK168) | ((with_reducible refine gate_callee (f := 44) rfl ?_); refine gl_ (some 15) Tryd.func44 #[.agg #[.slice A0_0 l0_0.length c0_0, .slice A0_1 l0_1.length c0_1, .int .i64 a0_2]] ?_; (with_reducible refine (evaluate_proper.calls _ _ l0_0 _ _ l0_1 a0_2 false _ ?side1 ?side2 ?side3 ?side4 A4.out).mono ?_); (case side1 => exact cs_ (Kd.C_below HR0_0.out HB.out)); (case side2 => exact HC0_0.out); (case side3 => exact cs_ (Kd.C_below HR0_1.out HB.out)); (case side4 => exact HC0_1.out); rintro e w23 ⟨rfl, hb⟩; refine ⟨_, rfl, ?_⟩; replace BK168 := mk_ (bb_ BK168 hb); replace HB := mk_ (below_step (be1_ HB GE168) hb)))
  go_ret2
  exact ⟨_, er_, by first | exact Kd.R_nil _ _ _ _ _ | exact Kd.N_nil _ _ _ _ _ | exact Kd.V_nil _ _ _ _ _ | exact Kd.Q_nil _ _ _ _ _ | exact Kd.S_nil _ _ _ _ _, be1_ HB GE168⟩
def pentaglotref22_SameInts.l0 : Nat → List Int → List Int → Int → Option (Bool)
 | 0, _, _, _ => none
 | k + 1, x0, x1, x5 => if x5 < (x0.length : Int) then (if 0 ≤ x5 then (if x5 < (x1.length : Int) then (if (rd x0 x5) = (rd x1 x5) then (pentaglotref22_SameInts.l0 k x0 x1 (wrap64 (x5 + 1))) else (some false)) else (none)) else (none)) else (some true)
def pentaglotref22_SameInts.f (k : Nat) (l0 : List Int) (l1 : List Int) : Option (Bool) := if (l0.length : Int) = (l1.length : Int) then (pentaglotref22_SameInts.l0 k l0 l1 0) else (some false)
theorem pentaglotref22_SameInts.calls (k : Nat) (A0 : Option Addr) (c0 : Nat) (l0 : List Int) (A1 : Option Addr) (c1 : Nat) (l1 : List Int) (r : Bool) (w : World) (hr0 : Kd.C (Kd.int .i64) w A0 l0.length l0) (hc0 : l0.length ≤ c0) (hr1 : Kd.C (Kd.int .i64) w A1 l1.length l1) (hc1 : l1.length ≤ c1) (h : pentaglotref22_SameInts.f k l0 l1 = some r) :
  Calls Tryd.prog 25 #[.slice A0 l0.length c0, .slice A1 l1.length c1] w fun e w' => e = .returned (.bool r) ∧ Drawn0 w w' := by
 have HR0 := mk_ hr0; have HC0 := mk_ hc0; clear hr0 hc0
 have HR1 := mk_ hr1; have HC1 := mk_ hc1; clear hr1 hc1
 have H : (if (l0.length : Int) = (l1.length : Int) then (pentaglotref22_SameInts.l0 k l0 l1 0) else (some false)) = some r := h
 clear h
 by_cases c3 : (l0.length : Int) = (l1.length : Int)
 ·rw [if_pos c3] at H
  obtain ⟨c3b0, c3b1⟩ := eb_ c3
  have c3b2 : (l0.length == l1.length) = true := by first | simpa using c3 | (simp at c3 ⊢; omega)
  clear c3
  have H' := mk_ H
  clear H
  go_enter Tryd.func25, Tryd.ntmps25
  go_wp2
  repeat (go_quiet (fail); try go_wp2)
  go_loopg [5] k (fun kq v5 w' => ∃ (x5_1 : Int), v5 = .int .i64 x5_1 ∧ Aside0 (pentaglotref22_SameInts.l0 kq l0 l1 x5_1 = some r) ∧ Aside0 (kq ≤ k) ∧ Drawn0 w w')
  case atStart => exact ⟨(0), fi_, H', ⟨Nat.le_refl _⟩, by repeat (first | exact Drawn0.refl _ | apply Drawn0.step)⟩
  case round =>
   clear H'
   obtain ⟨x5_1, rfl, HA, HK1, ⟨m1, rfl⟩⟩ := hrel
   cases gk with
   | zero => exact absurd HA.out (by simp [pentaglotref22_SameInts.l0])
   | succ k1 =>
    have H := HA.out
    clear HA
    simp only [pentaglotref22_SameInts.l0] at H
    by_cases c4 : x5_1 < (l0.length : Int)
    ·rw [if_pos c4] at H
     have c4b0 : decide (x5_1 < (l0.length : Int)) = true := decide_eq_true c4
     clear c4
     by_cases c5 : 0 ≤ x5_1
     ·rw [if_pos c5] at H
      have c5b0 : decide (0 ≤ x5_1) = true := decide_eq_true c5
      clear c5
      by_cases c6 : x5_1 < (l1.length : Int)
      ·rw [if_pos c6] at H
       have c6b0 : decide (x5_1 < (l1.length : Int)) = true := decide_eq_true c6
       clear c6
       by_cases c7 : (rd l0 x5_1) = (rd l1 x5_1)
       ·rw [if_pos c7] at H
        obtain ⟨c7b0, c7b1⟩ := eb_ c7
        clear c7
        have H' := mk_ H
        clear H
        have p176 : 0 ≤ (x5_1 : Int) := of_decide_eq_true (by first | (with_reducible assumption) | assumption)
        have q176 : x5_1 < (l0.length : Int) := of_decide_eq_true (by first | (with_reducible assumption) | assumption)
        obtain ⟨ad176, e176, hx176_0⟩ := Kd.at_int HR0.out x5_1 p176 q176
        cases e176
        replace p176 := eq_true p176
        replace q176 := eq_true q176
        have p177 : 0 ≤ (x5_1 : Int) := of_decide_eq_true (by first | (with_reducible assumption) | assumption)
        have q177 : x5_1 < (l1.length : Int) := of_decide_eq_true (by first | (with_reducible assumption) | assumption)
        obtain ⟨ad177, e177, hx177_0⟩ := Kd.at_int HR1.out x5_1 p177 q177
        cases e177
        replace p177 := eq_true p177
        replace q177 := eq_true q177
        go_wp2
        repeat (go_quiet (fail); try go_wp2)
        go_roundg k1
        case measure => have := HK1.out; omega
        case rel => exact ⟨(wrap64 (x5_1 + 1)), fi_, H', ⟨by have := HK1.out; omega⟩, by repeat (first | exact Drawn0.refl _ | apply Drawn0.step)⟩
       ·rw [if_neg c7] at H
        obtain ⟨c7b0, c7b1⟩ := en_ c7
        obtain rfl := Option.some.inj H
        have p176 : 0 ≤ (x5_1 : Int) := of_decide_eq_true (by first | (with_reducible assumption) | assumption)
        have q176 : x5_1 < (l0.length : Int) := of_decide_eq_true (by first | (with_reducible assumption) | assumption)
        obtain ⟨ad176, e176, hx176_0⟩ := Kd.at_int HR0.out x5_1 p176 q176
        cases e176
        replace p176 := eq_true p176
        replace q176 := eq_true q176
        have p177 : 0 ≤ (x5_1 : Int) := of_decide_eq_true (by first | (with_reducible assumption) | assumption)
        have q177 : x5_1 < (l1.length : Int) := of_decide_eq_true (by first | (with_reducible assumption) | assumption)
        obtain ⟨ad177, e177, hx177_0⟩ := Kd.at_int HR1.out x5_1 p177 q177
        cases e177
        replace p177 := eq_true p177
        replace q177 := eq_true q177
        go_wp2
        repeat (go_quiet (fail); try go_wp2)
        go_ret
        exact ⟨by first | rfl | (simp [pw_isEmpty]; done) | (simp; done) | (simp [*]; done), by repeat (first | exact Drawn0.refl _ | apply Drawn0.step)⟩
      ·rw [if_neg c6] at H
       exact absurd H (by simp)
     ·rw [if_neg c5] at H
      exact absurd H (by simp)
    ·rw [if_neg c4] at H
     have c4b0 : decide (x5_1 < (l0.length : Int)) = false := decide_eq_false c4
     clear c4
     obtain rfl := Option.some.inj H
     go_wp2
     repeat (go_quiet (fail); try go_wp2)
     go_ret
     exact ⟨by first | rfl | (simp [pw_isEmpty]; done) | (simp; done) | (simp [*]; done), by repeat (first | exact Drawn0.refl _ | apply Drawn0.step)⟩
 ·rw [if_neg c3] at H
  obtain ⟨c3b0, c3b1⟩ := en_ c3
  have c3b2 : (l0.length == l1.length) = false := by first | simpa using c3 | (simp at c3 ⊢; omega)
  obtain rfl := Option.some.inj H
  go_enter Tryd.func25, Tryd.ntmps25
  go_wp2
  repeat (go_quiet (fail); try go_wp2)
  go_ret
  exact ⟨by first | rfl | (simp [pw_isEmpty]; done) | (simp; done) | (simp [*]; done), by repeat (first | exact Drawn0.refl _ | apply Drawn0.step)⟩
end Go.Proofs.YtolpckflofjfhaaDoor.P
