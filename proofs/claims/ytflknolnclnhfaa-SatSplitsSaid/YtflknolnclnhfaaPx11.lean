-- Written by the session's own program wip/tools/xprint.py out of the translation, with the kit's print.py on a scratch copy; functions given by hand stand among them.
import Derived.Test.YtflknolnclnhfaaPx0
import Derived.Test.YtflknolnclnhfaaPx2
import Derived.Test.YtflknolnclnhfaaPx4
import Derived.Test.YtflknolnclnhfaaPx8
import Derived.Test.YtflknolnclnhfaaPx9
import Derived.Test.YtflknolnclnhfaaPx10
namespace Go.Proofs.Ytflknolnclnhfaa.P
open Go.RowKit Go.Proofs.YtflknolnclnhfaaW.PrintWords Go.Proofs.YtflknolnclnhfaaW.PrintLast Go.Proofs.YtflknolnclnhfaaW.PrintMore
attribute [local go_sem] max2_int min2_int max_two min_two max_three min_three max_four min_four   -- for this text's walks alone
set_option linter.unusedVariables false
set_option linter.unusedSimpArgs false

-- NOT PRINTED: function 39 (pentaglotref28_Search_Look)

/-! ### pentaglotref28_Least: function 23, by hand -/
-- leans on 25 43 21 20
/-- The reference's search: what is found, the count, whether it is over. -/
def lookR (k : Nat) (n0 : Int) (gs : List S52) (n2 budget : Int) : Nat → List Int → Int → Bool → Option ((List Int × Bool) × Int × Bool)
  | 0, _, _, _ => none
  | f + 1, bits, count, over =>
    if over = true ∨ count = budget then some (([], false), count, true)
    else (pentaglotref28_Three.f k n0 gs n2 bits).bind fun v => if v ≠ 2 then some ((bits, v == 1), wrap64 (count + 1), false)
    else (pentaglotref28_First.f k n0 gs n2 bits).bind fun i => if 0 ≤ i ∧ i < (bits.length : Int) ∧ bits.length ≤ 1000000 then
      (lookR k n0 gs n2 budget f (bits.set i.toNat 0) (wrap64 (count + 1)) false).bind fun r1 => if r1.1.2 = true then some r1 else
        (lookR k n0 gs n2 budget f (bits.set i.toNat 1) r1.2.1 r1.2.2).bind fun r2 => if r2.1.2 = true then some r2 else some (([], false), r2.2)
    else none
def IsSr (w : World) (sb : Nat) (n0 : Int) (A : Option Addr) (n c : Nat) (n2 budget count : Int) (over : Bool) : Prop := w.heap[sb]? = some (.cells #[.int .i64 n0, .slice A n c, .int .i64 n2, .int .i64 budget, .int .i64 count, .bool over] 64 (0, 0))
section
variable {w W : World} {sb : Nat} {n0 : Int} {A : Option Addr} {n c : Nat} {n2 budget count : Int} {over : Bool}
theorem IsSr.c0 (h : IsSr w sb n0 A n c n2 budget count over) : w.cell? ⟨sb, 0, none⟩ = some (.int .i64 n0) := (blk_cell h 0).trans rfl
theorem IsSr.c1 (h : IsSr w sb n0 A n c n2 budget count over) : w.cell? ⟨sb, 1, none⟩ = some (.slice A n c) := (blk_cell h 1).trans rfl
theorem IsSr.c2 (h : IsSr w sb n0 A n c n2 budget count over) : w.cell? ⟨sb, 2, none⟩ = some (.int .i64 n2) := (blk_cell h 2).trans rfl
theorem IsSr.c3 (h : IsSr w sb n0 A n c n2 budget count over) : w.cell? ⟨sb, 3, none⟩ = some (.int .i64 budget) := (blk_cell h 3).trans rfl
theorem IsSr.c4 (h : IsSr w sb n0 A n c n2 budget count over) : w.cell? ⟨sb, 4, none⟩ = some (.int .i64 count) := (blk_cell h 4).trans rfl
theorem IsSr.c5 (h : IsSr w sb n0 A n c n2 budget count over) : w.cell? ⟨sb, 5, none⟩ = some (.bool over) := (blk_cell h 5).trans rfl
end
/-- What a search leaves. -/
def LookPost (sb N : Nat) (n0 : Int) (A : Option Addr) (n c : Nat) (n2 budget : Int) (w : World) (r : (List Int × Bool) × Int × Bool) (e : Ending) (w' : World) : Prop :=
  ∃ Ao co, e = .returned (.tuple #[.slice Ao r.1.1.length co, .bool r.1.2]) ∧ r.1.1.length ≤ co ∧ Kd.F (Kd.int .i64) w' (fun i => i ≠ sb) Ao r.1.1.length r.1.1 ∧ IsSr w' sb n0 A n c n2 budget r.2.1 r.2.2 ∧ KB w w' sb N
theorem KB.trans' {w W V : World} {g N : Nat} (h : KB w W g N) (k : KB W V g N) : KB w V g N :=
  ⟨⟨Nat.le_trans h.keep.1 k.keep.1, fun i hi hne hr => (k.keep.2 i (Nat.lt_of_lt_of_le hi h.keep.1) hne hr).trans (h.keep.2 i hi hne hr)⟩, h.bel.trans k.bel, h.le, h.lt⟩
theorem KB.drewN' {w W : World} {g N : Nat} (h : KB w W g N) (n : Nat) : KB w (W.drewN n) g N := ⟨⟨h.keep.1, h.keep.2⟩, pw_below_drewN h.bel n, h.le, h.lt⟩
set_option maxHeartbeats 16000000 in
set_option maxRecDepth 100000 in
theorem lookR_any (k N sb : Nat) (hN : N ≤ sb) (n0 : Int) (A : Option Addr) (c : Nat) (gs : List S52) (hc : gs.length ≤ c) (n2 budget : Int) : ∀ (f : Nat) (bits : List Int) (count : Int) (over : Bool) (r : (List Int × Bool) × Int × Bool) (Ab : Option Addr) (cb : Nat) (w : World),
    IsSr w sb n0 A gs.length c n2 budget count over → Kd.F k52 w (fun i => i < N) A gs.length gs → Kd.F (Kd.int .i64) w (fun i => i ≠ sb) Ab bits.length bits → bits.length ≤ cb → lookR k n0 gs n2 budget f bits count over = some r →
    Calls Try.prog 39 #[.pointer (some ⟨sb, 0, none⟩), .slice Ab bits.length cb] w (LookPost sb N n0 A gs.length c n2 budget w r) := by
  intro f
  induction f with
  | zero => intro bits count over r Ab cb w _ _ _ _ h; cases h
  | succ f ih =>
    intro bits count over r Ab cb w hS hG hB hcb h
    rw [lookR] at h
    have HS := Aside0.mk hS
    have HG := Aside0.mk hG
    have HB := Aside0.mk hB
    have hKB0 : KB w w sb N := KB.refl hN (blk_lt hS)
    have y3 := hS.c3
    have y4 := hS.c4
    have y5 := hS.c5
    by_cases hov : over = true ∨ count = budget
    · rw [if_pos hov] at h
      obtain rfl := Option.some.inj h
      have y5f := blk_frozen hS 5
      clear h ih hS hG hB
      go_enter Try.func39, Try.ntmps39
      cases over with
      | true =>
        go_upto_region 1 with (fail)
        go_quiet (fail)
        go_wp2
        go_ret2
        refine (?_ : LookPost _ _ _ _ _ _ _ _ _ _ _ _)
        unfold LookPost
        exact ⟨none, 0, rfl, Nat.le_refl _, Kd.F_nil _ _ _, blk_put (blk_drewN HS.out _) 5 _ rfl, (hKB0.drewN' _).put 5 _⟩
      | false =>
        have hcb2 : count = budget := by rcases hov with h | h; cases h; exact h
        subst hcb2
        go_upto_region 1 with (fail)
        go_quiet (fail)
        go_wp2
        go_ret2
        refine (?_ : LookPost _ _ _ _ _ _ _ _ _ _ _ _)
        unfold LookPost
        exact ⟨none, 0, rfl, Nat.le_refl _, Kd.F_nil _ _ _, blk_put (blk_drewN HS.out _) 5 _ rfl, (hKB0.drewN' _).put 5 _⟩
    · rw [if_neg hov] at h
      obtain rfl : over = false := by cases over with | true => exact absurd (.inl rfl) hov | false => rfl
      have hcn : (count == budget) = false := by rw [beq_eq_false_iff_ne]; exact fun e => hov (.inr e)
      obtain ⟨v, hv, h2⟩ := Option.bind_eq_some_iff.1 h
      have y4f := blk_frozen hS 4
      have HI := Aside0.mk ih
      have H2 := Aside0.mk h2
      have HV := Aside0.mk hv
      have y0 := hS.c0
      have y1 := hS.c1
      have y2 := hS.c2
      clear h ih hS hG hB h2 hv hov
      go_enter Try.func39, Try.ntmps39
      go_upto_region 1 with (fail)
      go_quiet (fail)
      go_upto_region 5 with (fail)
      have hS1 : IsSr ((w.drewN nq).setCell ⟨sb, 4, none⟩ (.int .i64 (wrap64 (count + 1)))) sb n0 A gs.length c n2 budget (wrap64 (count + 1)) false := blk_put (blk_drewN HS.out _) 4 _ rfl
      have hK1 := (hKB0.drewN' nq).put 4 (.int .i64 (wrap64 (count + 1)))
      have hG1 := Kd.F_far (Kd.F_below HG.out (pw_below_drewN (Below.refl _ _) nq)) (p := ⟨sb, 4, none⟩) (fun i (hi : i < N) => (by show i ≠ sb; omega)) (.int .i64 (wrap64 (count + 1)))
      have hB1 := Kd.F_far (Kd.F_below HB.out (pw_below_drewN (Below.refl _ _) nq)) (p := ⟨sb, 4, none⟩) (fun i hi => hi) (.int .i64 (wrap64 (count + 1)))
      generalize (w.drewN nq).setCell ⟨sb, 4, none⟩ (.int .i64 (wrap64 (count + 1))) = W1 at hS1 hK1 hG1 hB1 ⊢
      generalize wrap64 (count + 1) = cn at hS1 H2 ⊢
      have z0 := hS1.c0
      have z1 := hS1.c1
      have z2 := hS1.c2
      have a21 := fun (W : World) (hW : Below W1.heap.size W1 W) => pentaglotref28_Three.calls k n0 A c gs n2 Ab cb bits v W (Kd.C_below (Kd.F_now hG1) hW) hc (Kd.C_below (Kd.F_now hB1) hW) hcb HV.out
      have HS1 := Aside0.mk hS1
      have HK1 := Aside0.mk hK1
      have HG1 := Aside0.mk hG1
      have HB1 := Aside0.mk hB1
      have hu24 := Try.underlying24
      clear hS1 hK1 hG1 hB1 y0 y1 y2 y3 y4 y4f y5 HS HG HB hKB0 hcn
      by_cases hv2 : v = 2
      case neg =>
        have h2 := H2.out
        rw [if_pos hv2] at h2
        obtain rfl := Option.some.inj h2
        have hvb : (v != 2) = true := by simp [hv2]
        go_wp2_with (go_at_call 21; refine (a21 _ (Below.refl _ _)).mono ?_; rintro e' w2 ⟨rfl, hb2⟩; have HB2 := Aside0.mk hb2; clear hb2 a21 z0 z1 z2)
        go_ret2
        refine (?_ : LookPost _ _ _ _ _ _ _ _ _ _ _ _)
        unfold LookPost
        exact ⟨Ab, cb, rfl, hcb, Kd.F_below HB1.out HB2.out, blk_below HS1.out HB2.out, ⟨⟨Nat.le_trans HK1.out.keep.1 HB2.out.size, fun i hi hne hr => (HB2.out.block i (Nat.lt_of_lt_of_le hi HK1.out.keep.1)).trans (HK1.out.keep.2 i hi hne hr)⟩, HK1.out.bel.trans (HB2.out.mono (by have := HK1.out.keep.1; have := HK1.out.lt; omega)), HK1.out.le, HK1.out.lt⟩⟩
      subst hv2
      have h2 := H2.out
      rw [if_neg (by simp)] at h2
      obtain ⟨i, hi, h3⟩ := Option.bind_eq_some_iff.1 h2
      by_cases hib : 0 ≤ i ∧ i < (bits.length : Int) ∧ bits.length ≤ 1000000
      case neg => rw [if_neg hib] at h3; cases h3
      rw [if_pos hib] at h3
      obtain ⟨hi0, hi1, hi2⟩ := hib
      have a43 := fun (W : World) (hW : Below W1.heap.size W1 W) => pentaglotref28_First.calls k n0 A c gs n2 Ab cb bits i W (Kd.C_below (Kd.F_now HG1.out) hW) hc (Kd.C_below (Kd.F_now HB1.out) hW) hcb hi
      obtain ⟨r1, hr1, h4⟩ := Option.bind_eq_some_iff.1 h3
      have H4 := Aside0.mk h4
      have HR1 := Aside0.mk hr1
      clear H2 h2 h3 h4 hr1 hi
      go_wp2_with (first | (go_at_call 21; refine (a21 _ (Below.refl _ _)).mono ?_; rintro e' w2 ⟨rfl, hb2⟩; have HB2 := Aside0.mk hb2; have hs2 := blk_below HS1.out hb2; have z0 := IsSr.c0 hs2; have z1 := IsSr.c1 hs2; have z2 := IsSr.c2 hs2; clear hs2 hb2 a21) | (go_at_call 43; refine (a43 _ HB2.out).mono ?_; rintro e' w3 ⟨rfl, hb3⟩; have HB3 := Aside0.mk (HB2.out.trans (hb3.mono HB2.out.size)); clear hb3 a43 z0 z1 z2))
      have HS3 := Aside0.mk (blk_below HS1.out HB3.out)
      have hK3 : KB W1 w3 sb N := ⟨⟨HB3.out.size, fun j hj _ _ => HB3.out.block j hj⟩, HB3.out.mono (by have := HK1.out.keep.1; have := HK1.out.lt; omega), hN, blk_lt HS1.out⟩
      have HK3 := Aside0.mk hK3
      clear hK3 HB2 HB3
      have i0 : ∀ w, (Instr.index 71 (.agg #[.int .i64 0, .int .i64 1]) (.int .i64 0)).run Try.prog w = .ok (.int .i64 0) w := fun _ => by kernel_rfl
      have i1 : ∀ w, (Instr.index 71 (.agg #[.int .i64 0, .int .i64 1]) (.int .i64 1)).run Try.prog w = .ok (.int .i64 1) w := fun _ => by kernel_rfl
      have en : ((i.toNat : Nat) : Int) = i := by omega
      have hit : i.toNat < bits.length := by omega
      go_loopw [56] (fun v56 wr => ∃ (q : Nat) (ct : Int) (ov : Bool), v56 = .int .i64 (q : Int) ∧ Aside0 ((q = 0 ∧ ct = cn ∧ ov = false) ∨ (q = 1 ∧ r1.1.2 = false ∧ ct = r1.2.1 ∧ ov = r1.2.2) ∨ (q = 2 ∧ r1.1.2 = false ∧ ∃ r2, lookR k n0 gs n2 budget f (bits.set i.toNat 1) r1.2.1 r1.2.2 = some r2 ∧ r2.1.2 = false ∧ ct = r2.2.1 ∧ ov = r2.2.2)) ∧
        Aside0 (IsSr wr sb n0 A gs.length c n2 budget ct ov) ∧ Aside0 (KB W1 wr sb N)) (fun v56 _ => 2 - (intOf v56).toNat)
      case atStart => exact ⟨0, cn, false, rfl, ⟨.inl ⟨rfl, rfl, rfl⟩⟩, HS3, HK3⟩
      case round =>
        clear HS3 HK3
        obtain ⟨q, ct, ov, rfl, HQ, HS4, HK4⟩ := hrel
        by_cases hq2 : q < 2
        · obtain ⟨rq, hrq, hyes, hno⟩ : ∃ rq, lookR k n0 gs n2 budget f (bits.set i.toNat (q : Int)) ct ov = some rq ∧ (rq.1.2 = true → r = rq) ∧ (rq.1.2 = false → (q = 0 ∧ r1 = rq) ∨ (q = 1 ∧ r1.1.2 = false ∧ lookR k n0 gs n2 budget f (bits.set i.toNat 1) r1.2.1 r1.2.2 = some rq)) := by
            have h4 := H4.out
            rcases HQ.out with ⟨rfl, rfl, rfl⟩ | ⟨rfl, h1, rfl, rfl⟩ | ⟨rfl, _⟩
            · refine ⟨r1, HR1.out, fun e => ?_, fun e => .inl ⟨rfl, rfl⟩⟩
              rw [if_pos e] at h4
              exact (Option.some.inj h4).symm
            · rw [if_neg (by rw [h1]; decide)] at h4
              obtain ⟨r2, hr2, h5⟩ := Option.bind_eq_some_iff.1 h4
              refine ⟨r2, hr2, fun e => ?_, fun e => .inr ⟨rfl, h1, hr2⟩⟩
              rw [if_pos e] at h5
              exact (Option.some.inj h5).symm
            · omega
          have iq : ∀ w, (Instr.index 71 (.agg #[.int .i64 0, .int .i64 1]) (.int .i64 (q : Int))).run Try.prog w = .ok (.int .i64 (q : Int)) w := by
            have : q = 0 ∨ q = 1 := by omega
            rcases this with rfl | rfl
            · exact i0
            · exact i1
          have hqi : (q : Int) < 2 := by omega
          have HRQ := Aside0.mk hrq
          have HYES := Aside0.mk hyes
          have HNO := Aside0.mk hno
          have hFB : Kd.F (Kd.int .i64) wr (fun j => j ≠ sb) Ab bits.length bits := Kd.F_step HB1.out (fun j hj hlt => HK4.out.keep.2 j hlt hj (by simp))
          have HFB := Aside0.mk hFB
          clear i0 i1 hrq hyes hno hFB
          go_upto_region 13 with (first | ((with_reducible refine gate_dst (N := 59) rfl ?_); refine Kd.R_lit (Kd.int .i64) _ 3 ?hg (N := 59) ?hd (xs := ([] : List Int)) (inner := []) (ok := fun _ => True) (okp := fun _ => True) ?hr ?hp (fun _ hk => hk) trivial (Below.refl _ _) (Nat.le_refl _) (by simp) ?_; (case hd => rfl); (case hg => rfl); (case hr => first | (go_simp; done) | (go_simp; rfl)); (case hp => exact (Reps.none _ _)); intro v4 w4 ho4 hb4 _ _; have HO4 := Aside0.mk ho4; have HB4 := Aside0.mk hb4; clear ho4 hb4) | ((with_reducible refine gate_builtin (b := .append) (xs := #[.tmp 59, .tmp 60]) rfl ?_); at_builtin; refine Kd.R_append_rows (Kd.int .i64) (w0 := wr) wr.heap.size rfl (.tmp 59) (.tmp 60) 33 3 (.int .i64 0) 8 rfl Try.underlying33 info3 rfl (by decide) (by omega) v4 [] bits _ _ _ (fun _ => True) (fun _ => False) rfl rfl HO4.out (Kd.C_below (Kd.F_now HFB.out) HB4.out) (fun _ _ h => h) (fun _ h => h.elim) (fun _ _ => trivial) HB4.out HB4.out.size (by simp only [List.length_nil]; omega) ?_; intro v5 w5 ho5 hb5 _ _; rw [List.nil_append] at ho5; obtain ⟨gb, cv, rfl, hgb, hgl, _⟩ := Kd.R_form ho5 (by omega); have HO5 := Aside0.mk ho5; have HB5 := Aside0.mk hb5; clear ho5 hb5))
          have hsb : sb < wr.heap.size := blk_lt HS4.out
          have hcell := Kd.R_cell (0 : Int) HO5.out i hi0 (by omega)
          have s0 := hcell.1
          have s1 := hcell.2
          clear hcell
          have hput := (Kd.R_put HO5.out i (q : Int)).1
          have hS6 := blk_far (blk_below HS4.out HB5.out) (p := ⟨gb, i.toNat, none⟩) (by omega : sb ≠ gb) (.int .i64 (q : Int))
          have hK6 : KB W1 (w5.setCell ⟨gb, i.toNat, none⟩ (.int .i64 (q : Int))) sb N := ⟨⟨by have := HK4.out.keep.1; have := HB5.out.size; simp [World.setCell]; omega, fun j hj hne hr => by
            have h1 := HK4.out.keep.1
            exact (Below.heap_setCell w5 ⟨gb, i.toNat, none⟩ (.int .i64 (q : Int)) j (by show j ≠ gb; omega)).trans ((HB5.out.block j (by omega)).trans (HK4.out.keep.2 j hj hne hr))⟩, (HK4.out.bel.trans (HB5.out.mono (by omega))).setCell (p := ⟨gb, i.toNat, none⟩) (by show N ≤ gb; omega) _, HK4.out.le, HK4.out.lt⟩
          have HS6 := Aside0.mk hS6
          have HK6 := Aside0.mk hK6
          have HP6 := Aside0.mk hput
          clear hput hS6 hK6
          go_upto_region 14 with (fail)
          generalize w5.setCell ⟨gb, i.toNat, none⟩ (.int .i64 (q : Int)) = w6 at HS6 HK6 HP6 ⊢
          clear s0 s1
          have hcall := HI.out (bits.set i.toNat (q : Int)) ct ov rq (some ⟨gb, 0, none⟩) cv w6 HS6.out (Kd.F_step HG1.out (fun j hj _ => HK6.out.bel.block j hj)) (by
            rw [List.length_set]
            exact Kd.F_mono (Kd.R_F (Kd.R_bound HP6.out)) (fun j hj => by have := hj.2.1; omega)) (by
            obtain ⟨_, hcv, _⟩ := Kd.R_reads' HP6.out
            rw [List.length_set]
            exact hcv) HRQ.out
          rw [List.length_set] at hcall
          obtain ⟨⟨ro, rb⟩, rc, rv⟩ := rq
          cases rb with
          | true =>
            obtain rfl := HYES.out rfl
            go_wp2_with (go_at_call 39; refine hcall.mono ?_; rintro e' w7 ⟨Ao, co, rfl, hlo, hFo, hS7, hK7⟩; have HFO := Aside0.mk hFo; have HS7 := Aside0.mk hS7; have HK7 := Aside0.mk hK7; have HLO := Aside0.mk hlo; clear hFo hS7 hK7 hlo hcall)
            go_ret2
            refine (?_ : LookPost _ _ _ _ _ _ _ _ _ _ _ _)
            unfold LookPost
            exact ⟨Ao, co, rfl, HLO.out, HFO.out, HS7.out, (HK1.out.trans' HK6.out).trans' HK7.out⟩
          | false =>
            go_wp2_with (go_at_call 39; refine hcall.mono ?_; rintro e' w7 ⟨Ao, co, rfl, hlo, hFo, hS7, hK7⟩; have HFO := Aside0.mk hFo; have HS7 := Aside0.mk hS7; have HK7 := Aside0.mk hK7; have HLO := Aside0.mk hlo; clear hFo hS7 hK7 hlo hcall)
            go_roundw
            case rel =>
              refine ⟨q + 1, rc, rv, by go_num, ⟨?_⟩, HS7, ⟨HK6.out.trans' HK7.out⟩⟩
              rcases HNO.out trivial with ⟨rfl, rfl⟩ | ⟨rfl, h1, h2⟩
              · exact .inr (.inl ⟨rfl, rfl, rfl, rfl⟩)
              · exact .inr (.inr ⟨rfl, h1, _, h2, rfl, rfl, rfl⟩)
            case measure => simp [intOf]; omega
        · have hqi : ¬ (q : Int) < 2 := by omega
          go_wp2
          go_ret2
          refine (?_ : LookPost _ _ _ _ _ _ _ _ _ _ _ _)
          unfold LookPost
          rcases HQ.out with ⟨rfl, _⟩ | ⟨rfl, _⟩ | ⟨rfl, h1, r2, hr2, h3, rfl, rfl⟩
          · omega
          · omega
          · have h4 := H4.out
            rw [if_neg (by rw [h1]; decide), hr2, Option.bind_some, if_neg (by rw [h3]; decide)] at h4
            obtain rfl := Option.some.inj h4
            exact ⟨none, 0, rfl, Nat.le_refl _, Kd.F_nil _ _ _, HS4.out, HK1.out.trans' HK4.out⟩
theorem lookR_mono (n0 : Int) (gs : List S52) (n2 budget : Int) (k : Nat) : ∀ (f : Nat) (bits : List Int) (count : Int) (over : Bool), LeO (lookR k n0 gs n2 budget f bits count over) (lookR (k + 1) n0 gs n2 budget (f + 1) bits count over)
  | 0, _, _, _ => fun r h => by simp [lookR] at h
  | f + 1, bits, count, over => by
    have ih := lookR_mono n0 gs n2 budget k f
    rw [lookR, lookR]
    exact LeO.ite (LeO.refl _) (LeO.bind (pentaglotref28_Three.mono _ _ _ _ _) (fun v => LeO.ite (LeO.refl _) (LeO.bind (pentaglotref28_First.mono _ _ _ _ _) (fun i => LeO.ite (LeO.bind (ih _ _ _) (fun r1 => LeO.ite (LeO.refl _) (LeO.bind (ih _ _ _) (fun r2 => LeO.refl _)))) (LeO.refl _)))))
def pentaglotref28_Least.f (k : Nat) (a0_0 : Int) (l0_1 : List (S52)) (a0_2 : Int) (l1 : List Int) (a2 : Int) : Option (List Bool × Int × Int) :=
  (pentaglotref28_Partial.f k a0_0 l0_1 a0_2 l1).bind fun t =>
    if t = true then
      (if a2 < 1 then some ([], 0, 1)
      else if a2 > 1048576 then some ([], 0, 1)
      else (lookR k a0_0 l0_1 a0_2 a2 k l1 0 false).bind fun r => if r.2.2 = true then some ([], 0, 7) else if r.1.2 = false then some ([], 0, 4) else if r.1.1.length ≤ 1000000 then some (r.1.1.map (fun b => b == 1), r.2.1, 0) else none)
    else some ([], 0, 1)
theorem pentaglotref28_Least.mono (a0_0 : Int) (l0_1 : List (S52)) (a0_2 : Int) (l1 : List Int) (a2 : Int) (k : Nat) : LeO (pentaglotref28_Least.f k a0_0 l0_1 a0_2 l1 a2) (pentaglotref28_Least.f (k + 1) a0_0 l0_1 a0_2 l1 a2) :=
  LeO.bind (pentaglotref28_Partial.mono _ _ _ _ _) (fun t => LeO.ite (LeO.ite (LeO.refl _) (LeO.ite (LeO.refl _) (LeO.bind (lookR_mono _ _ _ _ _ _ _ _ _) (fun r => LeO.refl _)))) (LeO.refl _))
set_option maxHeartbeats 16000000 in
set_option maxRecDepth 100000 in
theorem pentaglotref28_Least.calls (k : Nat) (a0_0 : Int) (A0_1 : Option Addr) (c0_1 : Nat) (l0_1 : List (S52)) (a0_2 : Int) (A1 : Option Addr) (c1 : Nat) (l1 : List Int) (a2 : Int) (r1 : List Bool) (r2 : Int) (r3 : Int) (w : World) (hr0_1 : Kd.C k52 w A0_1 l0_1.length l0_1) (hc0_1 : l0_1.length ≤ c0_1) (hr1 : Kd.C (Kd.int .i64) w A1 l1.length l1) (hc1 : l1.length ≤ c1) (h : pentaglotref28_Least.f k a0_0 l0_1 a0_2 l1 a2 = some (r1, r2, r3)) :
    Calls Try.prog 23 #[.agg #[.int .i64 a0_0, .slice A0_1 l0_1.length c0_1, .int .i64 a0_2], .slice A1 l1.length c1, .int .i64 a2] w fun e w' => ∃ v0_ : Value, e = .returned (.tuple #[v0_, .int .i64 r2, .int .i64 r3]) ∧ Kd.R Kd.bool 4 w' w.heap.size (fun _ => True) v0_ r1 ∧ Below w.heap.size w w' := by
  obtain ⟨t, ht, h2⟩ := Option.bind_eq_some_iff.1 h
  clear h
  have hp := fun (W : World) (hW : AtC w W a0_0 A0_1 c0_1 l0_1 a0_2) => pentaglotref28_Partial.calls k a0_0 A0_1 c0_1 l0_1 a0_2 A1 c1 l1 t W (Kd.C_below hr0_1 hW.bel) hc0_1 (Kd.C_below hr1 hW.bel) hc1 ht
  have hu24 := Try.underlying24
  have hu64 := Try.underlying64
  have HX0 := Aside0.mk (AtC.new w a0_0 A0_1 c0_1 l0_1 a0_2)
  clear ht
  have quit : t = false ∨ a2 < 1 ∨ a2 > 1048576 → r1 = [] ∧ r2 = 0 ∧ r3 = 1 → Calls Try.prog 23 #[.agg #[.int .i64 a0_0, .slice A0_1 l0_1.length c0_1, .int .i64 a0_2], .slice A1 l1.length c1, .int .i64 a2] w fun e w' => ∃ v0_ : Value, e = .returned (.tuple #[v0_, .int .i64 r2, .int .i64 r3]) ∧ Kd.R Kd.bool 4 w' w.heap.size (fun _ => True) v0_ r1 ∧ Below w.heap.size w w' := by
    rintro hq ⟨rfl, rfl, rfl⟩
    clear hr0_1 hr1
    cases t with
    | false =>
      go_enter Try.func23, Try.ntmps23
      go_wp2_with (go_at_call 20; refine (hp _ HX0.out).mono ?_; rintro e w1 ⟨rfl, hb1⟩; have HX1 := Aside0.mk (HX0.out.step hb1); clear hb1 hp)
      go_ret3
      exact ⟨_, rfl, Kd.R_nil _ _ _ _ _, HX1.out.bel⟩
    | true =>
      by_cases hb1 : a2 < 1
      · go_enter Try.func23, Try.ntmps23
        go_wp2_with (go_at_call 20; refine (hp _ HX0.out).mono ?_; rintro e w1 ⟨rfl, hb1⟩; have HX1 := Aside0.mk (HX0.out.step hb1); clear hb1 hp)
        go_ret3
        exact ⟨_, rfl, Kd.R_nil _ _ _ _ _, HX1.out.bel⟩
      · have hb2 : a2 > 1048576 := by
          rcases hq with h | h | h
          · cases h
          · exact absurd h hb1
          · exact h
        go_enter Try.func23, Try.ntmps23
        go_wp2_with (go_at_call 20; refine (hp _ HX0.out).mono ?_; rintro e w1 ⟨rfl, hb1⟩; have HX1 := Aside0.mk (HX0.out.step hb1); clear hb1 hp)
        go_ret3
        exact ⟨_, rfl, Kd.R_nil _ _ _ _ _, HX1.out.bel⟩
  cases t with
  | false =>
    rw [if_neg (by decide)] at h2
    injection h2 with h2
    injection h2 with e1 e2
    injection e2 with e2 e3
    exact quit (.inl rfl) ⟨e1.symm, e2.symm, e3.symm⟩
  | true =>
    rw [if_pos rfl] at h2
    by_cases hb1 : a2 < 1
    · rw [if_pos hb1] at h2
      injection h2 with h2
      injection h2 with e1 e2
      injection e2 with e2 e3
      exact quit (.inr (.inl hb1)) ⟨e1.symm, e2.symm, e3.symm⟩
    rw [if_neg hb1] at h2
    by_cases hb2 : a2 > 1048576
    · rw [if_pos hb2] at h2
      injection h2 with h2
      injection h2 with e1 e2
      injection e2 with e2 e3
      exact quit (.inr (.inr hb2)) ⟨e1.symm, e2.symm, e3.symm⟩
    rw [if_neg hb2] at h2
    obtain ⟨⟨⟨ro, rb⟩, rc, rv⟩, hlk, h3⟩ := Option.bind_eq_some_iff.1 h2
    clear h2 quit
    have HG := Aside0.mk (Kd.C_F heap52 hr0_1)
    have HF := Aside0.mk (Kd.C_F (Kd.heap_int _) hr1)
    have HK := Aside0.mk hlk
    have H3 := Aside0.mk h3
    have HC := Aside0.mk hc0_1
    have HC1 := Aside0.mk hc1
    clear hlk h3 hr0_1 hr1 hc0_1 hc1
    go_enter Try.func23, Try.ntmps23
    go_upto_region 4 with (go_at_call 20; refine (hp _ HX0.out).mono ?_; rintro e w1 ⟨rfl, hb1⟩; have HX1 := Aside0.mk (HX0.out.step hb1); have y0 := HX1.out.c0; have y1 := HX1.out.c1; have y2 := HX1.out.c2; clear hb1 hp)
    have hsb := heap_alloc_new w1 (.cells #[.int .i64 a0_0, .slice A0_1 l0_1.length c0_1, .int .i64 a0_2, .int .i64 a2, .int .i64 0, .bool false] 64)
    have hX2 := HX1.out.alloc (.cells #[.int .i64 a0_0, .slice A0_1 l0_1.length c0_1, .int .i64 a0_2, .int .i64 a2, .int .i64 0, .bool false] 64)
    have hw1 : w.heap.size < w1.heap.size := blk_lt HX1.out.box
    generalize w1.alloc (.cells #[.int .i64 a0_0, .slice A0_1 l0_1.length c0_1, .int .i64 a0_2, .int .i64 a2, .int .i64 0, .bool false] 64) = W2 at hsb hX2 ⊢
    generalize w1.heap.size = sb at hsb hw1 ⊢
    have hcall := lookR_any k w.heap.size sb (Nat.le_of_lt hw1) a0_0 A0_1 c0_1 l0_1 HC.out a0_2 a2 k l1 0 false ((ro, rb), rc, rv) A1 c1 W2 hsb (Kd.F_below HG.out hX2.bel) (Kd.F_mono (Kd.F_below HF.out hX2.bel) (fun i hi => by omega)) HC1.out HK.out
    have HB2 := Aside0.mk hX2.bel
    clear hsb hX2 HX1 y0 y1 y2
    have h3 := H3.out
    clear H3
    cases rv with
    | true =>
      rw [if_pos rfl] at h3
      injection h3 with h3
      injection h3 with e1 e2
      injection e2 with e2 e3
      subst e1 e2 e3
      go_wp2_with (go_at_call 39; refine hcall.mono ?_; rintro e' w3 ⟨Ao, co, rfl, hlo, hFo, hS3, hK3⟩; have HB3 := Aside0.mk (HB2.out.trans hK3.bel); have z5 := IsSr.c5 hS3; clear hlo hFo hS3 hK3 hcall)
      go_ret3
      exact ⟨_, rfl, Kd.R_nil _ _ _ _ _, HB3.out⟩
    | false =>
      rw [if_neg (by decide)] at h3
      cases rb with
      | false =>
        rw [if_pos rfl] at h3
        injection h3 with h3
        injection h3 with e1 e2
        injection e2 with e2 e3
        subst e1 e2 e3
        go_wp2_with (go_at_call 39; refine hcall.mono ?_; rintro e' w3 ⟨Ao, co, rfl, hlo, hFo, hS3, hK3⟩; have HB3 := Aside0.mk (HB2.out.trans hK3.bel); have z5 := IsSr.c5 hS3; clear hlo hFo hS3 hK3 hcall)
        go_ret3
        exact ⟨_, rfl, Kd.R_nil _ _ _ _ _, HB3.out⟩
      | true =>
        rw [if_neg (by decide)] at h3
        by_cases hro : ro.length ≤ 1000000
        case neg => rw [if_neg hro] at h3; cases h3
        rw [if_pos hro] at h3
        injection h3 with h3
        injection h3 with e1 e2
        injection e2 with e2 e3
        have e1 : ro.map (fun b => b == 1) = r1 := e1
        have e2 : rc = r2 := e2
        subst e1 e2 e3
        go_wp2_with (go_at_call 39; refine hcall.mono ?_; rintro e' w3 ⟨Ao, co, rfl, hlo, hFo, hS3, hK3⟩; have HB3 := Aside0.mk (HB2.out.trans hK3.bel); have z5 := IsSr.c5 hS3; have HS3 := Aside0.mk (show IsSr w3 sb a0_0 A0_1 l0_1.length c0_1 a0_2 a2 rc false from hS3); have HFO := Aside0.mk (show Kd.F (Kd.int .i64) w3 (fun i => i ≠ sb) Ao ro.length ro from hFo); clear hlo hFo hS3 hK3 hcall)
        clear z5
        have hw3 : w.heap.size ≤ w3.heap.size := HB3.out.size
        go_loopw [12, 45] (fun v12 v45 wr => ∃ q : Nat, q ≤ ro.length ∧ v45 = .int .i64 (q : Int) ∧ Aside0 (Kd.R Kd.bool 4 wr w3.heap.size (fun _ => True) v12 ((ro.take q).map (fun b => b == 1))) ∧ Aside0 (Below w3.heap.size w3 wr)) (fun _ v45 _ => ro.length - (intOf v45).toNat)
        case atStart => exact ⟨0, Nat.zero_le _, rfl, ⟨Kd.R_nil _ _ _ _ _⟩, ⟨Below.refl _ _⟩⟩
        case round =>
          obtain ⟨q, hq, rfl, HR, HBW⟩ := hrel
          by_cases hqt : q < ro.length
          · have hq0 : (q : Int) < (ro.length : Int) := by omega
            obtain ⟨ad, rfl, hx⟩ := Kd.at_int (Kd.C_below (Kd.F_now HFO.out) HBW.out) (q : Int) (by omega) (by omega)
            simp only [Int.toNat_natCast] at hx
            have hsn : (ro.take q).map (fun b => b == 1) ++ [rd ro q == 1] = (ro.take (q + 1)).map (fun b => b == 1) := by
              have e : rd ro q = ro[q] := by unfold rd; rw [Int.toNat_natCast, List.getD_eq_getElem?_getD, List.getElem?_eq_getElem hqt]; rfl
              rw [List.take_succ_eq_append_getElem hqt, List.map_append, e]
              rfl
            have HSN := Aside0.mk hsn
            have hml : ((ro.take q).map (fun b => b == 1)).length = q := by simp; omega
            have HML := Aside0.mk hml
            clear hsn hml
            go_wp2_with ((with_reducible refine gate_builtin (b := .append) (xs := #[.tmp 49, .tmp 52]) rfl ?_); at_builtin; refine Kd.R_append Kd.bool (w0 := w3) w3.heap.size rfl (.tmp 49) (.tmp 52) 25 4 (.bool false) 1 rfl Try.underlying25 info4 rfl (by decide) (by omega) _ ((ro.take q).map (fun b => b == 1)) (rd ro q == 1) [.bool (rd ro q == 1)] (fun _ => True) (fun _ => False) rfl rfl rfl (fun _ hk => hk.elim) (fun _ _ => trivial) HR.out HBW.out HBW.out.size (by rw [HML.out]; omega) ?_; intro v1 w5 ho hb hg hat; rw [HSN.out] at ho; have HO5 := Aside0.mk ho; have HB5 := Aside0.mk hb; clear ho hb hg hat)
            go_roundw
            case rel => exact ⟨q + 1, by omega, by go_num, HO5, HB5⟩
            case measure => simp [intOf]; omega
          · have hqe : ¬ (q : Int) < (ro.length : Int) := by omega
            have x4 := IsSr.c4 (blk_below HS3.out HBW.out)
            go_wp2
            go_quiet (fail)
            go_wp2
            go_ret3
            have h := HR.out
            rw [List.take_of_length_le (by omega)] at h
            exact ⟨_, rfl, Kd.R_lower (Kd.R_below h (pw_below_drewN (Below.refl _ _) _)) hw3, pw_below_drewN (HB3.out.trans (HBW.out.mono hw3)) _⟩

/-! ### pentaglotref28_All: function 27 -/
mutual
def pentaglotref28_All.l0 : Nat → List (List Bool) → Int → Int → List (S52) → Int → Option ((List (List Bool)))
  | 0, _, _, _, _, _ => none
  | k + 1, x3, x4, x291000, x291001, x291002 => if 0 ≤ x291000 then (if x4 < (shl .i64 1 x291000) then (pentaglotref28_All.l1 k x3 x4 ([] : List Bool) 0 x291000 x291001 x291002) else (some x3)) else (none)
def pentaglotref28_All.l1 : Nat → List (List Bool) → Int → List Bool → Int → Int → List (S52) → Int → Option ((List (List Bool)))
  | 0, _, _, _, _, _, _, _ => none
  | k + 1, x3, x4, x5, x6, x291000, x291001, x291002 => if x6 < x291000 then (if 0 ≤ (wrap64 ((wrap64 (x291000 - 1)) - x6)) then (if x5.length < 140737488355328 then (pentaglotref28_All.l1 k x3 x4 (x5 ++ [((Int.tmod (shr .i64 x4 (wrap64 ((wrap64 (x291000 - 1)) - x6))) 2) == 1)]) (wrap64 (x6 + 1)) x291000 x291001 x291002) else (none)) else (none)) else ((pentaglotref27_Eval.f k x291000 x291001 x291002 x5).bind fun t294 => (if t294 = true then (if x3.length < 5864062014805 then (pentaglotref28_All.l0 k (x3 ++ [x5]) (wrap64 (x4 + 1)) x291000 x291001 x291002) else (none)) else (pentaglotref28_All.l0 k x3 (wrap64 (x4 + 1)) x291000 x291001 x291002)))
end
def pentaglotref28_All.f (k : Nat) (a0_0 : Int) (l0_1 : List (S52)) (a0_2 : Int) : Option ((List (List Bool))) := pentaglotref28_All.l0 k ([] : List (List Bool)) 0 a0_0 l0_1 a0_2
theorem pentaglotref28_All.mono_l : ∀ k, (∀ y0 y1 y2 y3 y4, LeO (pentaglotref28_All.l0 k y0 y1 y2 y3 y4) (pentaglotref28_All.l0 (k + 1) y0 y1 y2 y3 y4)) ∧ (∀ y0 y1 y2 y3 y4 y5 y6, LeO (pentaglotref28_All.l1 k y0 y1 y2 y3 y4 y5 y6) (pentaglotref28_All.l1 (k + 1) y0 y1 y2 y3 y4 y5 y6))
  | 0 => ⟨fun _ _ _ _ _ r h => by simp [pentaglotref28_All.l0] at h, fun _ _ _ _ _ _ _ r h => by simp [pentaglotref28_All.l1] at h⟩
  | k + 1 => by
    obtain ⟨ih0, ih1⟩ := pentaglotref28_All.mono_l k
    refine ⟨?_, ?_⟩
    · intro y0 y1 y2 y3 y4
      unfold pentaglotref28_All.l0
      repeat' first
      | (with_reducible exact ih0 _ _ _ _ _)
      | (with_reducible exact ih1 _ _ _ _ _ _ _)
      | (with_reducible exact pentaglotref27_Eval.mono _ _ _ _ _)
      | (with_reducible exact LeO.refl _)
      | (with_reducible exact LeO.none _)
      | (with_reducible refine LeO.ite ?_ ?_)
      | (with_reducible refine LeO.bind ?_ (fun _ => ?_))
      | exact ih0 _ _ _ _ _
      | exact ih1 _ _ _ _ _ _ _
      | exact pentaglotref27_Eval.mono _ _ _ _ _
      | exact LeO.none _
      | refine LeO.ite ?_ ?_
      | refine LeO.bind ?_ (fun _ => ?_)
    · intro y0 y1 y2 y3 y4 y5 y6
      unfold pentaglotref28_All.l1
      repeat' first
      | (with_reducible exact ih0 _ _ _ _ _)
      | (with_reducible exact ih1 _ _ _ _ _ _ _)
      | (with_reducible exact pentaglotref27_Eval.mono _ _ _ _ _)
      | (with_reducible exact LeO.refl _)
      | (with_reducible exact LeO.none _)
      | (with_reducible refine LeO.ite ?_ ?_)
      | (with_reducible refine LeO.bind ?_ (fun _ => ?_))
      | exact ih0 _ _ _ _ _
      | exact ih1 _ _ _ _ _ _ _
      | exact pentaglotref27_Eval.mono _ _ _ _ _
      | exact LeO.none _
      | refine LeO.ite ?_ ?_
      | refine LeO.bind ?_ (fun _ => ?_)
theorem pentaglotref28_All.mono : ∀ a0 a1 a2 k, LeO (pentaglotref28_All.f k a0 a1 a2) (pentaglotref28_All.f (k + 1) a0 a1 a2) := by
  intro a0 a1 a2 k
  obtain ⟨ih0, ih1⟩ := pentaglotref28_All.mono_l k
  unfold pentaglotref28_All.f
  repeat' first
      | (with_reducible exact ih0 _ _ _ _ _)
      | (with_reducible exact ih1 _ _ _ _ _ _ _)
      | (with_reducible exact pentaglotref27_Eval.mono _ _ _ _ _)
      | (with_reducible exact LeO.refl _)
      | (with_reducible exact LeO.none _)
      | (with_reducible refine LeO.ite ?_ ?_)
      | (with_reducible refine LeO.bind ?_ (fun _ => ?_))
      | exact ih0 _ _ _ _ _
      | exact ih1 _ _ _ _ _ _ _
      | exact pentaglotref27_Eval.mono _ _ _ _ _
      | exact LeO.none _
      | refine LeO.ite ?_ ?_
      | refine LeO.bind ?_ (fun _ => ?_)
set_option maxHeartbeats 8000000 in
set_option maxRecDepth 100000 in
theorem pentaglotref28_All.calls (k : Nat) (a0_0 : Int) (A0_1 : Option Addr) (c0_1 : Nat) (l0_1 : List (S52)) (a0_2 : Int) (r : List (List Bool)) (w : World) (hr0_1 : Kd.C k52 w A0_1 l0_1.length l0_1) (hc0_1 : l0_1.length ≤ c0_1) (h : pentaglotref28_All.f k a0_0 l0_1 a0_2 = some r) :
    Calls Try.prog 27 #[.agg #[.int .i64 a0_0, .slice A0_1 l0_1.length c0_1, .int .i64 a0_2]] w fun e w' => ∃ v0_ : Value, e = .returned (v0_) ∧ Kd.S (Kd.slice 4 Kd.bool) 25 w' w.heap.size (fun _ => True) v0_ r ∧ Below w.heap.size w w' := by
  have hu24 := Try.underlying24
  have HR0_1 := Aside0.mk hr0_1
  have HC0_1 := Aside0.mk hc0_1
  clear hr0_1 hc0_1
  have HB := Aside0.mk (Below.refl w.heap.size w)
  have H : (pentaglotref28_All.l0 k ([] : List (List Bool)) 0 a0_0 l0_1 a0_2) = some r := h
  clear h
  have H' := Aside0.mk H
  clear H
  go_enter Try.func27, Try.ntmps27
  go_wp2_with (first | ((with_reducible refine gate_dst (N := 1) rfl ?_); refine box_event ?hg (N := 1) ?hd (cs := #[.int .i64 a0_0, .slice A0_1 l0_1.length c0_1, .int .i64 a0_2]) (t := 24) ?hr ?_; (case hd => rfl); (case hg => rfl); (case hr => first | (go_simp; done) | (go_simp; rfl)); intro gb290 hg w2 hbox hb; have n0_ := Aside0.mk (below_step (by repeat (first | (with_reducible first | exact HB.out | apply below_alloc | apply pw_below_drewN | apply below_drew1) | exact HB.out)) hb); have n1_ := Aside0.mk (hbox); have n2_ := Aside0.mk ((by rw [hg]; exact (below_size (by repeat (first | (with_reducible first | exact HB.out | apply below_alloc | apply pw_below_drewN | apply below_drew1) | exact HB.out))) : w.heap.size ≤ gb290)); have n3_ := Aside0.mk ((by rw [hg]; exact (below_size (by repeat (first | (with_reducible first | exact HB.out | apply below_alloc | apply pw_below_drewN | apply below_drew1) | exact HB.out))) : w.heap.size ≤ gb290)); clear HB; have HB := n0_; have BK290 := n1_; have GW290 := n2_; have GE290 := n3_; clear n0_ n1_ n2_ n3_; clear hb hbox hg))
  go_loopg [3, 4] k (fun kq v3 v4 w' => ∃ (x3_1 : List (List Bool)) (x4_1 : Int), v4 = .int .i64 x4_1 ∧ Aside0 (pentaglotref28_All.l0 kq x3_1 x4_1 a0_0 l0_1 a0_2 = some r) ∧ Aside0 (kq ≤ k) ∧ Aside0 (Kd.S (Kd.slice 4 Kd.bool) 25 w' w.heap.size (fun _ => True) v3 x3_1) ∧ Aside0 (w'.heap[gb290]? = some (.cells #[.int .i64 a0_0, (.slice A0_1 l0_1.length c0_1), .int .i64 a0_2] 24 (0, 0))) ∧ Aside0 (Below w.heap.size w w'))
  case atStart => exact ⟨(([] : List (List Bool))), (0), (by first | rfl | (simp; done) | (simp [*]; done)), H', ⟨Nat.le_refl _⟩, ⟨by first | exact Kd.S_nil _ _ _ _ _ | exact Kd.N_nil _ _ _ _ _ | exact Kd.V_nil _ _ _ _ _ | exact Kd.Q_nil _ _ _ _ _ | exact Kd.R_nil _ _ _ _ _⟩, ⟨by (with_reducible repeat (first | refine blk_drewN ?_ _ | refine blk_drew ?_ | refine blk_alloc ?_ _)); exact BK290.out⟩, ⟨by repeat (first | (with_reducible first | exact HB.out | apply below_alloc | apply pw_below_drewN | apply below_drew1 | refine below_set ?_ GE290.out) | exact HB.out)⟩⟩
  case round =>
    clear H'
    try clear c2
    try clear p2
    obtain ⟨x3_1, x4_1, rfl, HA, HK1, HO_3, BK290, HB⟩ := hrel
    cases gk with
    | zero => exact absurd HA.out (by simp [pentaglotref28_All.l0])
    | succ k1 =>
      have H := HA.out
      clear HA
      simp only [pentaglotref28_All.l0] at H
      by_cases c3 : 0 ≤ a0_0
      · rw [if_pos c3] at H
        have c3b0 := eq_true c3
        have c3b1 : decide (0 ≤ a0_0) = true := decide_eq_true c3
        clear c3
        obtain ⟨ji4, hji4⟩ : ∃ j_ : Int, (shl .i64 1 a0_0) = j_ := ⟨_, rfl⟩
        replace H : (if x4_1 < (ji4) then (pentaglotref28_All.l1 k1 x3_1 x4_1 ([] : List Bool) 0 a0_0 l0_1 a0_2) else (some x3_1)) = some r := by first | (rw [hji4] at H; exact H) | (simp only [hji4] at H ⊢; exact H)
        have hji4_ : (IntKind.i64.wrap (1 * 2 ^ min a0_0.toNat 64)) = ji4 := hji4
        have hji4z : a0_0 ≤ 64 → (IntKind.i64.wrap (1 * 2 ^ a0_0.toNat)) = ji4 := shl_small hji4
        have hji4u : (IntKind.i64.wrap (2 ^ min a0_0.toNat 64)) = ji4 := by have h_ := hji4_; rw [Int.one_mul] at h_; exact h_
        have hji4v : a0_0 ≤ 64 → (IntKind.i64.wrap (2 ^ a0_0.toNat)) = ji4 := fun hle_ => by have h_ := hji4z hle_; rw [Int.one_mul] at h_; exact h_
        have hji4y : (wrap64 (1 * 2 ^ min a0_0.toNat 64)) = ji4 := (i64_w _).symm.trans hji4_
        have hji4x : a0_0 ≤ 64 → (wrap64 (1 * 2 ^ a0_0.toNat)) = ji4 := fun h_ => (i64_w _).symm.trans (hji4z h_)
        by_cases c5 : x4_1 < (ji4)
        · rw [if_pos c5] at H
          have c5b0 : decide (x4_1 < (ji4)) = true := decide_eq_true c5
          clear c5
          have H' := Aside0.mk H
          clear H
          have hcz6_0 : wr.cell? ⟨gb290, 0, none⟩ = some (.int .i64 a0_0) := (blk_cell BK290.out 0).trans rfl
          have hcz6_1 : wr.cell? ⟨gb290, 1, none⟩ = some (.slice A0_1 l0_1.length c0_1) := (blk_cell BK290.out 1).trans rfl
          have hcz6_2 : wr.cell? ⟨gb290, 2, none⟩ = some (.int .i64 a0_2) := (blk_cell BK290.out 2).trans rfl
          have hfz6_0 := blk_frozen BK290.out 0
          have hfz6_1 := blk_frozen BK290.out 1
          have hfz6_2 := blk_frozen BK290.out 2
          go_wp2
          go_loopg [5, 6] k1 (fun kq v5 v6 w' => ∃ (x5_2 : List Bool) (x6_2 : Int), v6 = .int .i64 x6_2 ∧ Aside0 (pentaglotref28_All.l1 kq x3_1 x4_1 x5_2 x6_2 a0_0 l0_1 a0_2 = some r) ∧ Aside0 (kq ≤ k1) ∧ Aside0 (Kd.S (Kd.slice 4 Kd.bool) 25 w' w.heap.size (fun k_ => some k_ ≠ (v5 : Value).ownBlock) u3 x3_1) ∧ Aside0 (Kd.R Kd.bool 4 w' w.heap.size (fun _ => True) v5 x5_2) ∧ Aside0 (w'.heap[gb290]? = some (.cells #[.int .i64 a0_0, (.slice A0_1 l0_1.length c0_1), .int .i64 a0_2] 24 (0, 0))) ∧ Aside0 (Below w.heap.size w w'))
          case atStart => exact ⟨(([] : List Bool)), (0), (by first | rfl | (simp; done) | (simp [*]; done)), H', ⟨Nat.le_refl _⟩, ⟨by (with_reducible repeat (first | apply Kd.S_alloc | apply Kd.S_drewN | apply Kd.S_drew)); exact Kd.S_mono HO_3.out (fun _ hk => (by simp [Value.ownBlock]))⟩, ⟨by first | exact Kd.R_nil _ _ _ _ _ | exact Kd.N_nil _ _ _ _ _ | exact Kd.V_nil _ _ _ _ _ | exact Kd.Q_nil _ _ _ _ _ | exact Kd.S_nil _ _ _ _ _⟩, ⟨by (with_reducible repeat (first | refine blk_drewN ?_ _ | refine blk_drew ?_ | refine blk_alloc ?_ _)); exact BK290.out⟩, ⟨by repeat (first | (with_reducible first | exact HB.out | apply below_alloc | apply pw_below_drewN | apply below_drew1 | refine below_set ?_ GE290.out) | exact HB.out)⟩⟩
          case round =>
            clear H'
            try clear c2
            try clear p2
            try clear c3
            try clear c3b0
            try clear c3b1
            try clear c5
            try clear c5b0
            try clear p6
            try clear hcz6_0
            try clear hcz6_1
            try clear hcz6_2
            try clear hfz6_0
            try clear hfz6_1
            try clear hfz6_2
            try clear p2
            obtain ⟨x5_2, x6_2, rfl, HA, HK2, HO_3, HO_5, BK290, HB⟩ := hrel
            cases gk with
            | zero => exact absurd HA.out (by simp [pentaglotref28_All.l1])
            | succ k2 =>
              have H := HA.out
              clear HA
              simp only [pentaglotref28_All.l1] at H
              by_cases c7 : x6_2 < a0_0
              · rw [if_pos c7] at H
                have c7b0 : decide (x6_2 < a0_0) = true := decide_eq_true c7
                clear c7
                obtain ⟨ji8, hji8⟩ : ∃ j_ : Int, (wrap64 ((wrap64 (a0_0 - 1)) - x6_2)) = j_ := ⟨_, rfl⟩
                replace H : (if 0 ≤ (ji8) then (if x5_2.length < 140737488355328 then (pentaglotref28_All.l1 k2 x3_1 x4_1 (x5_2 ++ [((Int.tmod (shr .i64 x4_1 (ji8)) 2) == 1)]) (wrap64 (x6_2 + 1)) a0_0 l0_1 a0_2) else (none)) else (none)) = some r := by first | (rw [hji8] at H; exact H) | (simp only [hji8] at H ⊢; exact H)
                have hji8w : (IntKind.i64.wrap ((wrap64 (a0_0 - 1)) - x6_2)) = ji8 := (i64_w _).trans hji8
                by_cases c9 : 0 ≤ (ji8)
                · rw [if_pos c9] at H
                  have c9b0 := eq_true c9
                  have c9b1 : decide (0 ≤ (ji8)) = true := decide_eq_true c9
                  clear c9
                  obtain ⟨ji10, hji10⟩ : ∃ j_ : Int, (shr .i64 x4_1 (ji8)) = j_ := ⟨_, rfl⟩
                  replace H : (if x5_2.length < 140737488355328 then (pentaglotref28_All.l1 k2 x3_1 x4_1 (x5_2 ++ [((Int.tmod (ji10) 2) == 1)]) (wrap64 (x6_2 + 1)) a0_0 l0_1 a0_2) else (none)) = some r := by first | (rw [hji10] at H; exact H) | (simp only [hji10] at H ⊢; exact H)
                  have hji10_ : (x4_1 / 2 ^ min (ji8).toNat 64) = ji10 := hji10
                  have hji10z : (ji8) ≤ 64 → (x4_1 / 2 ^ (ji8).toNat) = ji10 := shr_small hji10
                  by_cases c11 : x5_2.length < 140737488355328
                  · rw [if_pos c11] at H
                    have LMc11 := Aside0.mk c11
                    clear c11
                    obtain ⟨y291, hy291⟩ : ∃ y_ : List Bool, y_ = (x5_2 ++ [((Int.tmod (ji10) 2) == 1)]) := ⟨_, rfl⟩
                    replace H : (pentaglotref28_All.l1 k2 x3_1 x4_1 y291 (wrap64 (x6_2 + 1)) a0_0 l0_1 a0_2) = some r := by first | (rw [hy291]; with_reducible exact H) | (have H2_ := (Option.bind_some _ _).symm.trans H; rw [hy291]; with_reducible exact H2_) | (have H2_ := (Option.bind_some _ _).symm.trans H; with_reducible exact H2_) | with_reducible exact H | (rw [hy291]; exact H) | exact H
                    have Ny291 := Aside0.mk hy291
                    clear hy291
                    have H' := Aside0.mk H
                    clear H
                    have hcz12_0 : wr.cell? ⟨gb290, 0, none⟩ = some (.int .i64 a0_0) := (blk_cell BK290.out 0).trans rfl
                    have hcz12_1 : wr.cell? ⟨gb290, 1, none⟩ = some (.slice A0_1 l0_1.length c0_1) := (blk_cell BK290.out 1).trans rfl
                    have hcz12_2 : wr.cell? ⟨gb290, 2, none⟩ = some (.int .i64 a0_2) := (blk_cell BK290.out 2).trans rfl
                    have hfz12_0 := blk_frozen BK290.out 0
                    have hfz12_1 := blk_frozen BK290.out 1
                    have hfz12_2 := blk_frozen BK290.out 2
                    go_wp2_with (first | ((with_reducible refine gate_builtin (b := .append) (xs := #[.tmp 20, .tmp 30]) rfl ?_); at_builtin; refine Kd.R_append Kd.bool (w0 := w) w.heap.size rfl (.tmp 20) (.tmp 30) 25 4 (.bool false) 1 rfl Try.underlying25 info4 rfl (by decide) (by omega) u5 x5_2 ((Int.tmod (ji10) 2) == 1) [.bool ((Int.tmod (ji10) 2) == 1)] (fun _ => True) (fun _ => False) rfl rfl ?aP (fun _ hk => hk.elim) ?aF ?aO ?aB ?aS ?aL ?_; (case aP => exact rfl); (case aB => exact (by repeat (first | (with_reducible first | exact HB.out | apply below_alloc | apply pw_below_drewN | apply below_drew1 | refine below_set ?_ GE290.out) | exact HB.out))); (case aF => exact (fun _ _ => trivial)); (case aO => exact (by (with_reducible repeat (first | apply Kd.R_alloc | apply Kd.R_drewN | apply Kd.R_drew)); exact HO_5.out)); (case aS => exact (below_size (by repeat (first | (with_reducible first | exact HB.out | apply below_alloc | apply pw_below_drewN | apply below_drew1 | refine below_set ?_ GE290.out) | exact HB.out)))); (case aL => have := LMc11.out; omega); intro v292 w13 ho hb hg hat; rw [← Ny291.out] at ho; have n0_ := Aside0.mk (Kd.S_after (ok := (fun _ => True)) (by (with_reducible repeat (first | apply Kd.S_alloc | apply Kd.S_drewN | apply Kd.S_drew)); exact Kd.S_mono HO_3.out (fun _ hk => ⟨trivial, hk⟩)) hg hat); have n1_ := Aside0.mk (blk_grown (g := gb290) (o := .cells #[.int .i64 a0_0, .slice A0_1 l0_1.length c0_1, .int .i64 a0_2] 24 (0, 0)) (by (with_reducible repeat (first | refine blk_drewN ?_ _ | refine blk_drew ?_ | refine blk_alloc ?_ _)); exact BK290.out) hg (Kd.R_ne HO_5.out BK290.out (by decide))); have n2_ := Aside0.mk (hb); have n3_ := Aside0.mk (ho); clear HO_3; clear BK290; clear HB; clear HO_5; have HO_3 := n0_; have BK290 := n1_; have HB := n2_; have HO293 := n3_; clear n0_ n1_ n2_ n3_; clear ho hb hg hat))
                    go_roundg k2
                    case measure => have := HK1.out; have := HK2.out; omega
                    case rel => exact ⟨(y291), (wrap64 (x6_2 + 1)), (by first | rfl | (simp; done) | (simp [*]; done)), H', ⟨by have := HK1.out; have := HK2.out; omega⟩, ⟨by (with_reducible repeat (first | apply Kd.S_alloc | apply Kd.S_drewN | apply Kd.S_drew)); exact Kd.S_mono HO_3.out (fun _ hk => hk.2)⟩, ⟨by (with_reducible repeat (first | apply Kd.R_alloc | apply Kd.R_drewN | apply Kd.R_drew)); exact HO293.out⟩, ⟨by (with_reducible repeat (first | refine blk_drewN ?_ _ | refine blk_drew ?_ | refine blk_alloc ?_ _)); exact BK290.out⟩, ⟨by repeat (first | (with_reducible first | exact HB.out | apply below_alloc | apply pw_below_drewN | apply below_drew1 | refine below_set ?_ GE290.out) | exact HB.out)⟩⟩
                  · rw [if_neg c11] at H
                    exact absurd H (by simp)
                · rw [if_neg c9] at H
                  exact absurd H (by simp)
              · rw [if_neg c7] at H
                have c7b0 : decide (x6_2 < a0_0) = false := decide_eq_false c7
                clear c7
                replace H := Option.bind_eq_some_iff.mp H
                obtain ⟨t294, A140, H⟩ := H
                replace H : (if t294 = true then (if x3_1.length < 5864062014805 then (pentaglotref28_All.l0 k2 (x3_1 ++ [x5_2]) (wrap64 (x4_1 + 1)) a0_0 l0_1 a0_2) else (none)) else (pentaglotref28_All.l0 k2 x3_1 (wrap64 (x4_1 + 1)) a0_0 l0_1 a0_2)) = some r := H
                have A14 := Aside0.mk A140
                clear A140
                by_cases c15 : t294 = true
                · subst c15
                  have H1 : (if x3_1.length < 5864062014805 then (pentaglotref28_All.l0 k2 (x3_1 ++ [x5_2]) (wrap64 (x4_1 + 1)) a0_0 l0_1 a0_2) else (none)) = some r := by rw [if_pos rfl] at H; exact H
                  clear H
                  have H := H1
                  clear H1
                  by_cases c16 : x3_1.length < 5864062014805
                  · rw [if_pos c16] at H
                    have LMc16 := Aside0.mk c16
                    clear c16
                    obtain ⟨y295, hy295⟩ : ∃ y_ : List (List Bool), y_ = (x3_1 ++ [x5_2]) := ⟨_, rfl⟩
                    replace H : (pentaglotref28_All.l0 k2 y295 (wrap64 (x4_1 + 1)) a0_0 l0_1 a0_2) = some r := by first | (rw [hy295]; with_reducible exact H) | (have H2_ := (Option.bind_some _ _).symm.trans H; rw [hy295]; with_reducible exact H2_) | (have H2_ := (Option.bind_some _ _).symm.trans H; with_reducible exact H2_) | with_reducible exact H | (rw [hy295]; exact H) | exact H
                    have Ny295 := Aside0.mk hy295
                    clear hy295
                    have H' := Aside0.mk H
                    clear H
                    have hcz17_0 : wr.cell? ⟨gb290, 0, none⟩ = some (.int .i64 a0_0) := (blk_cell BK290.out 0).trans rfl
                    have hcz17_1 : wr.cell? ⟨gb290, 1, none⟩ = some (.slice A0_1 l0_1.length c0_1) := (blk_cell BK290.out 1).trans rfl
                    have hcz17_2 : wr.cell? ⟨gb290, 2, none⟩ = some (.int .i64 a0_2) := (blk_cell BK290.out 2).trans rfl
                    have hfz17_0 := blk_frozen BK290.out 0
                    have hfz17_1 := blk_frozen BK290.out 1
                    have hfz17_2 := blk_frozen BK290.out 2
                    obtain ⟨Ao18, co18, eo18⟩ := Kd.R_slice HO_5.out
                    subst eo18
                    go_wp2_with (first | ((with_reducible refine gate_callee (f := 18) rfl ?_); refine goesL_ (some 34) rfl rfl Try.func18 (by kernel_rfl) rfl #[.agg #[.int .i64 a0_0, .slice A0_1 l0_1.length c0_1, .int .i64 a0_2], .slice Ao18 x5_2.length co18] rfl (by (try simp only [List.map_toArray, List.map_cons, List.map_nil]); first | done | rfl | (simp only [List.length_drop, List.length_take]; rfl)) ?_; (with_reducible refine (pentaglotref27_Eval.calls k2 a0_0 _ _ l0_1 a0_2 _ _ x5_2 true _ ?side1 ?side2 ?side3 ?side4 A14.out).mono ?_); (case side1 => repeat (first | exact (Kd.C_below HR0_1.out HB.out) | (with_reducible refine Kd.C_alloc ?_ _) | (with_reducible refine Kd.C_drewN ?_ _) | (with_reducible refine Kd.C_drew ?_))); (case side2 => exact HC0_1.out); (case side3 => repeat (first | exact (Kd.R_reads' HO_5.out).2.2 | (with_reducible refine Kd.C_alloc ?_ _) | (with_reducible refine Kd.C_drewN ?_ _) | (with_reducible refine Kd.C_drew ?_))); (case side4 => exact (Kd.R_reads' HO_5.out).2.1); rintro e w19 ⟨rfl, hb⟩; refine ⟨_, rfl, ?_⟩; have n0_ := Aside0.mk (Kd.S_below (by (with_reducible repeat (first | apply Kd.S_alloc | apply Kd.S_drewN | apply Kd.S_drew)); exact HO_3.out) hb); have n1_ := Aside0.mk (Kd.R_below (by (with_reducible repeat (first | apply Kd.R_alloc | apply Kd.R_drewN | apply Kd.R_drew)); exact HO_5.out) hb); have n2_ := Aside0.mk (blk_below (g := gb290) (o := .cells #[.int .i64 a0_0, .slice A0_1 l0_1.length c0_1, .int .i64 a0_2] 24 (0, 0)) (by (with_reducible repeat (first | refine blk_drewN ?_ _ | refine blk_drew ?_ | refine blk_alloc ?_ _)); exact BK290.out) hb); have n3_ := Aside0.mk (below_step (by repeat (first | (with_reducible first | exact HB.out | apply below_alloc | apply pw_below_drewN | apply below_drew1 | refine below_set ?_ GE290.out) | exact HB.out)) hb); clear HO_3; clear HO_5; clear BK290; clear HB; have HO_3 := n0_; have HO_5 := n1_; have BK290 := n2_; have HB := n3_; clear n0_ n1_ n2_ n3_; (try clear hb); (try clear hb2); (try clear hk); (try clear hi)) | ((with_reducible refine gate_builtin (b := .append) (xs := #[.tmp 35, .tmp 37]) rfl ?_); at_builtin; refine Kd.S_append (Kd.slice 4 Kd.bool) (w0 := w) w.heap.size rfl (.tmp 35) (.tmp 37) 43 25 (.slice none 0 0) 24 rfl Try.underlying43 info25 rfl (by decide) (by omega) u3 x3_1 x5_2 [.slice Ao18 x5_2.length co18] (fun _ => True) (fun k_ => some k_ = (.slice Ao18 x5_2.length co18 : Value).ownBlock) rfl rfl ?aP (fun k_ hk_ => ((Kd.R_mono (ok' := fun k_ => ((fun _ => True)) k_ ∧ some k_ ≠ (u3 : Value).ownBlock) (Kd.R_apart' (HO_5.out) (Kd.S_typed HO_3.out) (by decide)) (fun k_ hk => ⟨trivial, hk.2⟩))).1 k_ hk_.symm) ?aF ?aO ?aB ?aS ?aL ?_; (case aP => exact Kd.M_row (Kd.R_mono (Kd.R_tight rfl (Kd.R_mono (ok' := fun k_ => ((fun _ => True)) k_ ∧ some k_ ≠ (u3 : Value).ownBlock) (Kd.R_apart' (HO_5.out) (Kd.S_typed HO_3.out) (by decide)) (fun k_ hk => ⟨trivial, hk.2⟩))) (fun _ h_ => h_))); (case aB => exact (by repeat (first | (with_reducible first | exact HB.out | apply below_alloc | apply pw_below_drewN | apply below_drew1 | refine below_set ?_ GE290.out) | exact HB.out))); (case aF => exact (fun _ _ => trivial)); (case aO => exact (by (with_reducible repeat (first | apply Kd.S_alloc | apply Kd.S_drewN | apply Kd.S_drew)); exact Kd.S_mono HO_3.out (fun k_ hk => ⟨trivial, fun e_ => hk e_⟩))); (case aS => exact (below_size (by repeat (first | (with_reducible first | exact HB.out | apply below_alloc | apply pw_below_drewN | apply below_drew1 | refine below_set ?_ GE290.out) | exact HB.out)))); (case aL => have := LMc16.out; omega); intro v296 w20 ho hb hg hat; rw [← Ny295.out] at ho; have n0_ := Aside0.mk (blk_grown (g := gb290) (o := .cells #[.int .i64 a0_0, .slice A0_1 l0_1.length c0_1, .int .i64 a0_2] 24 (0, 0)) (by (with_reducible repeat (first | refine blk_drewN ?_ _ | refine blk_drew ?_ | refine blk_alloc ?_ _)); exact BK290.out) hg (Kd.S_ne HO_3.out BK290.out (by decide))); have n1_ := Aside0.mk (hb); have n2_ := Aside0.mk (ho); clear BK290; clear HB; clear HO_3; clear HO_5; have BK290 := n0_; have HB := n1_; have HO297 := n2_; clear n0_ n1_ n2_; clear ho hb hg hat))
                    go_roundg k2
                    case measure => have := HK1.out; have := HK2.out; omega
                    case rel => exact ⟨(y295), (wrap64 (x4_1 + 1)), (by first | rfl | (simp; done) | (simp [*]; done)), H', ⟨by have := HK1.out; have := HK2.out; omega⟩, ⟨by (with_reducible repeat (first | apply Kd.S_alloc | apply Kd.S_drewN | apply Kd.S_drew)); exact HO297.out⟩, ⟨by (with_reducible repeat (first | refine blk_drewN ?_ _ | refine blk_drew ?_ | refine blk_alloc ?_ _)); exact BK290.out⟩, ⟨by repeat (first | (with_reducible first | exact HB.out | apply below_alloc | apply pw_below_drewN | apply below_drew1 | refine below_set ?_ GE290.out) | exact HB.out)⟩⟩
                  · rw [if_neg c16] at H
                    exact absurd H (by simp)
                · replace c15 := Bool.eq_false_iff.mpr c15
                  subst c15
                  have H1 : (pentaglotref28_All.l0 k2 x3_1 (wrap64 (x4_1 + 1)) a0_0 l0_1 a0_2) = some r := by rw [if_neg (show ¬ (false = true) by decide)] at H; exact H
                  clear H
                  have H := H1
                  clear H1
                  have H' := Aside0.mk H
                  clear H
                  have hcz21_0 : wr.cell? ⟨gb290, 0, none⟩ = some (.int .i64 a0_0) := (blk_cell BK290.out 0).trans rfl
                  have hcz21_1 : wr.cell? ⟨gb290, 1, none⟩ = some (.slice A0_1 l0_1.length c0_1) := (blk_cell BK290.out 1).trans rfl
                  have hcz21_2 : wr.cell? ⟨gb290, 2, none⟩ = some (.int .i64 a0_2) := (blk_cell BK290.out 2).trans rfl
                  have hfz21_0 := blk_frozen BK290.out 0
                  have hfz21_1 := blk_frozen BK290.out 1
                  have hfz21_2 := blk_frozen BK290.out 2
                  obtain ⟨Ao22, co22, eo22⟩ := Kd.R_slice HO_5.out
                  subst eo22
                  go_wp2_with (first | ((with_reducible refine gate_callee (f := 18) rfl ?_); refine goesL_ (some 34) rfl rfl Try.func18 (by kernel_rfl) rfl #[.agg #[.int .i64 a0_0, .slice A0_1 l0_1.length c0_1, .int .i64 a0_2], .slice Ao22 x5_2.length co22] rfl (by (try simp only [List.map_toArray, List.map_cons, List.map_nil]); first | done | rfl | (simp only [List.length_drop, List.length_take]; rfl)) ?_; (with_reducible refine (pentaglotref27_Eval.calls k2 a0_0 _ _ l0_1 a0_2 _ _ x5_2 false _ ?side1 ?side2 ?side3 ?side4 A14.out).mono ?_); (case side1 => repeat (first | exact (Kd.C_below HR0_1.out HB.out) | (with_reducible refine Kd.C_alloc ?_ _) | (with_reducible refine Kd.C_drewN ?_ _) | (with_reducible refine Kd.C_drew ?_))); (case side2 => exact HC0_1.out); (case side3 => repeat (first | exact (Kd.R_reads' HO_5.out).2.2 | (with_reducible refine Kd.C_alloc ?_ _) | (with_reducible refine Kd.C_drewN ?_ _) | (with_reducible refine Kd.C_drew ?_))); (case side4 => exact (Kd.R_reads' HO_5.out).2.1); rintro e w23 ⟨rfl, hb⟩; refine ⟨_, rfl, ?_⟩; have n0_ := Aside0.mk (Kd.S_below (by (with_reducible repeat (first | apply Kd.S_alloc | apply Kd.S_drewN | apply Kd.S_drew)); exact HO_3.out) hb); have n1_ := Aside0.mk (Kd.R_below (by (with_reducible repeat (first | apply Kd.R_alloc | apply Kd.R_drewN | apply Kd.R_drew)); exact HO_5.out) hb); have n2_ := Aside0.mk (blk_below (g := gb290) (o := .cells #[.int .i64 a0_0, .slice A0_1 l0_1.length c0_1, .int .i64 a0_2] 24 (0, 0)) (by (with_reducible repeat (first | refine blk_drewN ?_ _ | refine blk_drew ?_ | refine blk_alloc ?_ _)); exact BK290.out) hb); have n3_ := Aside0.mk (below_step (by repeat (first | (with_reducible first | exact HB.out | apply below_alloc | apply pw_below_drewN | apply below_drew1 | refine below_set ?_ GE290.out) | exact HB.out)) hb); clear HO_3; clear HO_5; clear BK290; clear HB; have HO_3 := n0_; have HO_5 := n1_; have BK290 := n2_; have HB := n3_; clear n0_ n1_ n2_ n3_; (try clear hb); (try clear hb2); (try clear hk); (try clear hi)))
                  go_roundg k2
                  case measure => have := HK1.out; have := HK2.out; omega
                  case rel => exact ⟨(x3_1), (wrap64 (x4_1 + 1)), (by first | rfl | (simp; done) | (simp [*]; done)), H', ⟨by have := HK1.out; have := HK2.out; omega⟩, ⟨by (with_reducible repeat (first | apply Kd.S_alloc | apply Kd.S_drewN | apply Kd.S_drew)); exact Kd.S_mono HO_3.out (fun _ hk => trivial)⟩, ⟨by (with_reducible repeat (first | refine blk_drewN ?_ _ | refine blk_drew ?_ | refine blk_alloc ?_ _)); exact BK290.out⟩, ⟨by repeat (first | (with_reducible first | exact HB.out | apply below_alloc | apply pw_below_drewN | apply below_drew1 | refine below_set ?_ GE290.out) | exact HB.out)⟩⟩
        · rw [if_neg c5] at H
          have c5b0 : decide (x4_1 < (ji4)) = false := decide_eq_false c5
          clear c5
          obtain rfl := Option.some.inj H
          have hcz24_0 : wr.cell? ⟨gb290, 0, none⟩ = some (.int .i64 a0_0) := (blk_cell BK290.out 0).trans rfl
          have hcz24_1 : wr.cell? ⟨gb290, 1, none⟩ = some (.slice A0_1 l0_1.length c0_1) := (blk_cell BK290.out 1).trans rfl
          have hcz24_2 : wr.cell? ⟨gb290, 2, none⟩ = some (.int .i64 a0_2) := (blk_cell BK290.out 2).trans rfl
          have hfz24_0 := blk_frozen BK290.out 0
          have hfz24_1 := blk_frozen BK290.out 1
          have hfz24_2 := blk_frozen BK290.out 2
          go_wp2
          go_ret
          exact ⟨_, by first | rfl | (simp [errW_none, errW_some] <;> rfl) | (simp only [← hji4]; first | rfl | (simp [errW_none, errW_some] <;> rfl)) | (simp [*, errW_none, errW_some] <;> rfl), by (with_reducible repeat (first | apply Kd.S_alloc | apply Kd.S_drewN | apply Kd.S_drew)); exact HO_3.out, by repeat (first | (with_reducible first | exact HB.out | apply below_alloc | apply pw_below_drewN | apply below_drew1 | refine below_set ?_ GE290.out) | exact HB.out)⟩
      · rw [if_neg c3] at H
        exact absurd H (by simp)

end Go.Proofs.Ytflknolnclnhfaa.P
