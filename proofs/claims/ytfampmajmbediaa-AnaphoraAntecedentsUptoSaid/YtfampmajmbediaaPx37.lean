-- Written by the session's own program wip/tools/xprint.py out of the translation, with the kit's print.py on a scratch copy; functions given by hand stand among them.
import Derived.Test.YtfampmajmbediaaPx0
import Derived.Test.YtfampmajmbediaaPx6
import Derived.Test.YtfampmajmbediaaPx7
import Derived.Test.YtfampmajmbediaaPx17
import Derived.Test.YtfampmajmbediaaPx22
import Derived.Test.YtfampmajmbediaaPx26
namespace Go.Proofs.Ytfampmajmbediaa.P
open Go.RowKit Go.Proofs.YtfampmajmbediaaW.PrintWords Go.Proofs.YtfampmajmbediaaW.PrintLast Go.Proofs.YtfampmajmbediaaW.PrintMore
attribute [local go_sem] max2_int min2_int max_two min_two max_three min_three max_four min_four   -- for this text's walks alone
set_option linter.unusedVariables false
set_option linter.unusedSimpArgs false

/-! ### pentaglotlaw46_AnaphoraAntecedents: function 3, by hand -/
-- leans on 12 13 14 16 15
/-- Covered: where the statement says yes. -/
def pentaglotlaw46_AnaphoraAntecedents.f (k : Nat) (l0 : List S27) (a1 : Int) : Option Bool :=
 (pentaglotlaw46_awake.f k).bind fun _ => (pentaglotlaw46_notice.f k l0).bind fun s => if s = false then some true else (anaphora_Antecedent.f k l0 a1).bind fun np =>
  if a1 < 0 then (if np.2.2.2 = 1 ∧ sameB ⟨np.1, np.2.1, np.2.2.1⟩ awE = true then some true else none) else
  if (l0.length : Int) ≤ a1 then (if np.2.2.2 = 1 ∧ sameB ⟨np.1, np.2.1, np.2.2.1⟩ awE = true then some true else none) else
  (pentaglotref46_Antecedent.f k l0 a1).bind fun u => if u.2.2.2 = false then (if np.2.2.2 = 10 ∧ sameB ⟨np.1, np.2.1, np.2.2.1⟩ awE = true then some true else none) else
   (if np.2.2.2 = 0 ∧ sameB ⟨np.1, np.2.1, np.2.2.1⟩ ⟨u.1, u.2.1, u.2.2.1⟩ = true then some true else none)
theorem pentaglotlaw46_AnaphoraAntecedents.mono (l0 : List S27) (a1 : Int) (k : Nat) : LeO (pentaglotlaw46_AnaphoraAntecedents.f k l0 a1) (pentaglotlaw46_AnaphoraAntecedents.f (k + 1) l0 a1) :=
 LeO.bind (pentaglotlaw46_awake.mono _) (fun _ => LeO.bind (pentaglotlaw46_notice.mono _ _) (fun _ => LeO.ite (LeO.refl _) (LeO.bind (anaphora_Antecedent.mono _ _ _) (fun _ => LeO.ite (LeO.refl _) (LeO.ite (LeO.refl _) (LeO.bind (pentaglotref46_Antecedent.mono _ _ _) (fun _ => LeO.refl _)))))))
theorem awake_true {k : Nat} {a : Bool} (h : pentaglotlaw46_awake.f k = some a) : pentaglotlaw46_awake.f k = some true := by
 rw [h, (awake_ok h).2]
theorem tf_same (v v' : Value) (t t' : S27) (w : World) (h : TF w v t) (h' : TF w v' t') : Calls Try.prog 15 #[v, v'] w fun e w' => e = .returned (.bool (sameB t t')) ∧ Below w.heap.size w w' := by
 obtain ⟨A1, c1, A2, c2, rfl, l1, l2, f1, f2⟩ := h
 obtain ⟨B1, d1, B2, d2, rfl, m1, m2, g1, g2⟩ := h'
 obtain ⟨a, b, c⟩ := t
 obtain ⟨a', b', c'⟩ := t'
 exact pentaglotref31_Same.calls _ _ _ _ _ _ _ _ _ _ _ _ _ _ _ w (Kd.F_now f1) l1 (Kd.F_now f2) l2 (Kd.F_now g1) m1 (Kd.F_now g2) m2 rfl
theorem tf_nil (w : World) : TF w (.agg #[.string ⟨#[]⟩, .slice none 0 0, .slice none 0 0]) awE := ⟨none, 0, none, 0, rfl, Nat.le_refl _, Nat.le_refl _, Kd.F_nil _ _ _, Kd.F_nil _ _ _⟩
theorem tf_ante (k : Nat) (v : Value) (l : List S27) (i : Int) (r : ByteArray × List Int × List S27 × Int) (w : World) (h : LF w v l) (hk : anaphora_Antecedent.f k l i = some r) : Calls Try.prog 14 #[v, .int .i64 i] w fun e w' => ∃ A1 c1 A2 c2, e = .returned (.tuple #[.agg #[.string r.1, .slice A1 r.2.1.length c1, .slice A2 r.2.2.1.length c2], .int .i64 r.2.2.2]) ∧ TF w' (.agg #[.string r.1, .slice A1 r.2.1.length c1, .slice A2 r.2.2.1.length c2]) ⟨r.1, r.2.1, r.2.2.1⟩ ∧ Below w.heap.size w w' := by
 obtain ⟨A, c, rfl, hl, hf⟩ := h
 refine (anaphora_Antecedent.calls k A c l i r.1 r.2.1 r.2.2.1 r.2.2.2 w (Kd.F_now hf) hl hk).mono ?_
 rintro e w' ⟨v1, v2, rfl, h1, h2, hb⟩
 obtain ⟨B1, d1, rfl, m1, g1⟩ := Kd.R_V (base' := 0) h1
 obtain ⟨B2, d2, rfl, m2, g2⟩ := Kd.R_V (base' := 0) h2
 exact ⟨B1, d1, B2, d2, rfl, ⟨B1, d1, B2, d2, rfl, m1, m2, g1, Kd.F_mono g2 (fun _ _ => trivial)⟩, hb⟩
theorem tf_ref (k : Nat) (v : Value) (l : List S27) (i : Int) (r : ByteArray × List Int × List S27 × Bool) (w : World) (h : LF w v l) (hk : pentaglotref46_Antecedent.f k l i = some r) : Calls Try.prog 16 #[v, .int .i64 i] w fun e w' => ∃ A1 c1 A2 c2, e = .returned (.tuple #[.agg #[.string r.1, .slice A1 r.2.1.length c1, .slice A2 r.2.2.1.length c2], .bool r.2.2.2]) ∧ TF w' (.agg #[.string r.1, .slice A1 r.2.1.length c1, .slice A2 r.2.2.1.length c2]) ⟨r.1, r.2.1, r.2.2.1⟩ ∧ Below w.heap.size w w' := by
 obtain ⟨A, c, rfl, hl, hf⟩ := h
 refine (pentaglotref46_Antecedent.calls k (fun _ => True) A c l i r.1 r.2.1 r.2.2.1 r.2.2.2 w (Kd.V_mk hl hf) hk).mono ?_
 rintro e w' ⟨v1, v2, rfl, h1, h2, hb⟩
 obtain ⟨B1, d1, rfl, m1, g1⟩ := id h1
 obtain ⟨B2, d2, rfl, m2, g2⟩ := id h2
 exact ⟨B1, d1, B2, d2, rfl, ⟨B1, d1, B2, d2, rfl, m1, m2, Kd.F_mono g1 (fun _ _ => trivial), Kd.F_mono g2 (fun _ _ => trivial)⟩, hb⟩
set_option maxHeartbeats 16000000 in
set_option maxRecDepth 100000 in
theorem pentaglotlaw46_AnaphoraAntecedents.calls (k : Nat) (A0 : Option Addr) (c0 : Nat) (l0 : List S27) (a1 : Int) (r : Bool) (w : World) (hr0 : Kd.C k27 w A0 l0.length l0) (hc0 : l0.length ≤ c0) (h : pentaglotlaw46_AnaphoraAntecedents.f k l0 a1 = some r) :
  Calls Try.prog 3 #[.slice A0 l0.length c0, .int .i64 a1] w fun e w' => e = .returned (.bool r) ∧ Below w.heap.size w w' := by
 unfold pentaglotlaw46_AnaphoraAntecedents.f at h
 obtain ⟨a, ha, h⟩ := Option.bind_eq_some_iff.1 h
 obtain ⟨s, hs, h⟩ := Option.bind_eq_some_iff.1 h
 have hu27 := Try.underlying27
 have HA := Aside0.mk (awake_true ha)
 have HR := Aside0.mk hr0
 have HC0 := Aside0.mk hc0
 have HL := Aside0.mk (show LF w (.slice A0 l0.length c0) l0 from ⟨A0, c0, rfl, hc0, Kd.F_mono (Kd.C_F k27_heap hr0) (fun _ _ => trivial)⟩)
 have HS := Aside0.mk hs
 clear ha hs hr0 hc0
 cases s with
 | false =>
  rw [if_pos rfl] at h
  obtain rfl := Option.some.inj h
  clear h
  go_enter Try.func3, Try.ntmps3
  go_wp2_with (first | (go_at_call 12; refine (pentaglotlaw46_awake.calls k true _ HA.out).mono ?_; rintro e w1 ⟨rfl, hb1⟩; have HB1 := Aside0.mk hb1; clear hb1) | (go_at_call 13; refine (pentaglotlaw46_notice.calls k A0 c0 l0 _ _ (Kd.C_below HR.out HB1.out) HC0.out HS.out).mono ?_; rintro e w2 ⟨rfl, hb2⟩; have HB2 := Aside0.mk (HB1.out.trans (hb2.mono HB1.out.size)); clear hb2))
  go_ret
  exact ⟨rfl, HB2.out⟩
 | true =>
 rw [if_neg (by decide)] at h
 obtain ⟨np, hnp, h⟩ := Option.bind_eq_some_iff.1 h
 have HN := Aside0.mk hnp
 clear hnp
 by_cases h0 : a1 < 0
 case pos =>
  rw [if_pos h0] at h
  by_cases he : np.2.2.2 = 1 ∧ sameB ⟨np.1, np.2.1, np.2.2.1⟩ awE = true
  case neg => rw [if_neg he] at h; cases h
  rw [if_pos he] at h
  obtain rfl := Option.some.inj h
  obtain ⟨he1, he2⟩ := he
  clear h
  go_enter Try.func3, Try.ntmps3
  go_wp2_with (first | (go_at_call 12; refine (pentaglotlaw46_awake.calls k true _ HA.out).mono ?_; rintro e w1 ⟨rfl, hb1⟩; have HB1 := Aside0.mk hb1; clear hb1) | (go_at_call 13; refine (pentaglotlaw46_notice.calls k A0 c0 l0 _ _ (Kd.C_below HR.out HB1.out) HC0.out HS.out).mono ?_; rintro e w2 ⟨rfl, hb2⟩; have HB2 := Aside0.mk (HB1.out.trans (hb2.mono HB1.out.size)); clear hb2) | (go_at_call 14; refine (tf_ante k _ l0 a1 np _ (HL.out.below HB2.out) HN.out).mono ?_; rintro e w3 ⟨N1, m1, N2, m2, rfl, hn, hb3⟩; have HT := Aside0.mk (hn.below (below_alloc (Below.refl w3.heap.size w3) (.cells #[.string np.1, .slice N1 np.2.1.length m1, .slice N2 np.2.2.1.length m2] 27))); have HB3 := Aside0.mk (HB2.out.trans (hb3.mono HB2.out.size)); have HB3' := Aside0.mk (HB3.out.trans ((below_alloc (Below.refl w3.heap.size w3) (.cells #[.string np.1, .slice N1 np.2.1.length m1, .slice N2 np.2.2.1.length m2] 27)).mono HB3.out.size)); clear hn hb3) | (go_at_call 15; refine (tf_same _ _ ⟨np.1, np.2.1, np.2.2.1⟩ awE _ HT.out (tf_nil _)).mono ?_; rintro e w9 ⟨rfl, hb9⟩; have HB9 := Aside0.mk (HB3'.out.trans (hb9.mono HB3'.out.size)); clear hb9))
  go_ret
  exact ⟨rfl, HB9.out⟩
 rw [if_neg h0] at h
 by_cases h1 : (l0.length : Int) ≤ a1
 case pos =>
  rw [if_pos h1] at h
  by_cases he : np.2.2.2 = 1 ∧ sameB ⟨np.1, np.2.1, np.2.2.1⟩ awE = true
  case neg => rw [if_neg he] at h; cases h
  rw [if_pos he] at h
  obtain rfl := Option.some.inj h
  obtain ⟨he1, he2⟩ := he
  clear h
  go_enter Try.func3, Try.ntmps3
  go_wp2_with (first | (go_at_call 12; refine (pentaglotlaw46_awake.calls k true _ HA.out).mono ?_; rintro e w1 ⟨rfl, hb1⟩; have HB1 := Aside0.mk hb1; clear hb1) | (go_at_call 13; refine (pentaglotlaw46_notice.calls k A0 c0 l0 _ _ (Kd.C_below HR.out HB1.out) HC0.out HS.out).mono ?_; rintro e w2 ⟨rfl, hb2⟩; have HB2 := Aside0.mk (HB1.out.trans (hb2.mono HB1.out.size)); clear hb2) | (go_at_call 14; refine (tf_ante k _ l0 a1 np _ (HL.out.below HB2.out) HN.out).mono ?_; rintro e w3 ⟨N1, m1, N2, m2, rfl, hn, hb3⟩; have HT := Aside0.mk (hn.below (below_alloc (Below.refl w3.heap.size w3) (.cells #[.string np.1, .slice N1 np.2.1.length m1, .slice N2 np.2.2.1.length m2] 27))); have HB3 := Aside0.mk (HB2.out.trans (hb3.mono HB2.out.size)); have HB3' := Aside0.mk (HB3.out.trans ((below_alloc (Below.refl w3.heap.size w3) (.cells #[.string np.1, .slice N1 np.2.1.length m1, .slice N2 np.2.2.1.length m2] 27)).mono HB3.out.size)); clear hn hb3) | (go_at_call 15; refine (tf_same _ _ ⟨np.1, np.2.1, np.2.2.1⟩ awE _ HT.out (tf_nil _)).mono ?_; rintro e w9 ⟨rfl, hb9⟩; have HB9 := Aside0.mk (HB3'.out.trans (hb9.mono HB3'.out.size)); clear hb9))
  go_ret
  exact ⟨rfl, HB9.out⟩
 rw [if_neg h1] at h
 obtain ⟨u, hu, h⟩ := Option.bind_eq_some_iff.1 h
 have HU := Aside0.mk hu
 clear hu
 by_cases h2 : u.2.2.2 = false
 case pos =>
  rw [if_pos h2] at h
  by_cases he : np.2.2.2 = 10 ∧ sameB ⟨np.1, np.2.1, np.2.2.1⟩ awE = true
  case neg => rw [if_neg he] at h; cases h
  rw [if_pos he] at h
  obtain rfl := Option.some.inj h
  obtain ⟨he1, he2⟩ := he
  clear h
  go_enter Try.func3, Try.ntmps3
  go_wp2_with (first | (go_at_call 12; refine (pentaglotlaw46_awake.calls k true _ HA.out).mono ?_; rintro e w1 ⟨rfl, hb1⟩; have HB1 := Aside0.mk hb1; clear hb1) | (go_at_call 13; refine (pentaglotlaw46_notice.calls k A0 c0 l0 _ _ (Kd.C_below HR.out HB1.out) HC0.out HS.out).mono ?_; rintro e w2 ⟨rfl, hb2⟩; have HB2 := Aside0.mk (HB1.out.trans (hb2.mono HB1.out.size)); clear hb2) | (go_at_call 14; refine (tf_ante k _ l0 a1 np _ (HL.out.below HB2.out) HN.out).mono ?_; rintro e w3 ⟨N1, m1, N2, m2, rfl, hn, hb3⟩; have HT := Aside0.mk (hn.below (below_alloc (Below.refl w3.heap.size w3) (.cells #[.string np.1, .slice N1 np.2.1.length m1, .slice N2 np.2.2.1.length m2] 27))); have HB3 := Aside0.mk (HB2.out.trans (hb3.mono HB2.out.size)); have HB3' := Aside0.mk (HB3.out.trans ((below_alloc (Below.refl w3.heap.size w3) (.cells #[.string np.1, .slice N1 np.2.1.length m1, .slice N2 np.2.2.1.length m2] 27)).mono HB3.out.size)); clear hn hb3) | (go_at_call 16; refine (tf_ref k _ l0 a1 u _ (HL.out.below HB3'.out) HU.out).mono ?_; rintro e w4 ⟨M1, o1, M2, o2, rfl, hu, hb4⟩; have HT4 := Aside0.mk (HT.out.below hb4); have HB4 := Aside0.mk (HB3'.out.trans (hb4.mono HB3'.out.size)); have HBX := Aside0.mk ((hb4.block w3.heap.size (Nat.lt_of_lt_of_le (Nat.lt_succ_self _) (by simp))).trans (heap_alloc_new w3 (.cells #[.string np.1, .slice N1 np.2.1.length m1, .slice N2 np.2.2.1.length m2] 27))); have HB5 := Aside0.mk (HB4.out.trans ((below_alloc (Below.refl w4.heap.size w4) (.cells #[.string u.1, .slice M1 u.2.1.length o1, .slice M2 u.2.2.1.length o2] 27)).mono HB4.out.size)); have HT5 := Aside0.mk (HT4.out.below (below_alloc (Below.refl w4.heap.size w4) (.cells #[.string u.1, .slice M1 u.2.1.length o1, .slice M2 u.2.2.1.length o2] 27))); have HW5 := Aside0.mk (hu.below (below_alloc (Below.refl w4.heap.size w4) (.cells #[.string u.1, .slice M1 u.2.1.length o1, .slice M2 u.2.2.1.length o2] 27))); have hbx := blk_below HBX.out (below_alloc (Below.refl w4.heap.size w4) (.cells #[.string u.1, .slice M1 u.2.1.length o1, .slice M2 u.2.2.1.length o2] 27)); have y0 : (w4.alloc (.cells #[.string u.1, .slice M1 u.2.1.length o1, .slice M2 u.2.2.1.length o2] 27)).cell? ⟨w3.heap.size, 0, none⟩ = some (.string np.1) := (blk_cell hbx 0).trans rfl; have y1 : (w4.alloc (.cells #[.string u.1, .slice M1 u.2.1.length o1, .slice M2 u.2.2.1.length o2] 27)).cell? ⟨w3.heap.size, 1, none⟩ = some (.slice N1 np.2.1.length m1) := (blk_cell hbx 1).trans rfl; have y2 : (w4.alloc (.cells #[.string u.1, .slice M1 u.2.1.length o1, .slice M2 u.2.2.1.length o2] 27)).cell? ⟨w3.heap.size, 2, none⟩ = some (.slice N2 np.2.2.1.length m2) := (blk_cell hbx 2).trans rfl; clear hu hb4 hbx) | (go_at_call 15; refine (tf_same _ _ ⟨np.1, np.2.1, np.2.2.1⟩ awE _ HT5.out (tf_nil _)).mono ?_; rintro e w9 ⟨rfl, hb9⟩; have HB9 := Aside0.mk (HB5.out.trans (hb9.mono HB5.out.size)); clear hb9))
  go_ret
  exact ⟨rfl, HB9.out⟩
 rw [if_neg h2] at h
 have h3 : u.2.2.2 = true := by simpa using h2
 clear h2
 by_cases he : np.2.2.2 = 0 ∧ sameB ⟨np.1, np.2.1, np.2.2.1⟩ ⟨u.1, u.2.1, u.2.2.1⟩ = true
 case neg => rw [if_neg he] at h; cases h
 rw [if_pos he] at h
 obtain rfl := Option.some.inj h
 obtain ⟨he1, he2⟩ := he
 clear h
 go_enter Try.func3, Try.ntmps3
 go_wp2_with (first | (go_at_call 12; refine (pentaglotlaw46_awake.calls k true _ HA.out).mono ?_; rintro e w1 ⟨rfl, hb1⟩; have HB1 := Aside0.mk hb1; clear hb1) | (go_at_call 13; refine (pentaglotlaw46_notice.calls k A0 c0 l0 _ _ (Kd.C_below HR.out HB1.out) HC0.out HS.out).mono ?_; rintro e w2 ⟨rfl, hb2⟩; have HB2 := Aside0.mk (HB1.out.trans (hb2.mono HB1.out.size)); clear hb2) | (go_at_call 14; refine (tf_ante k _ l0 a1 np _ (HL.out.below HB2.out) HN.out).mono ?_; rintro e w3 ⟨N1, m1, N2, m2, rfl, hn, hb3⟩; have HT := Aside0.mk (hn.below (below_alloc (Below.refl w3.heap.size w3) (.cells #[.string np.1, .slice N1 np.2.1.length m1, .slice N2 np.2.2.1.length m2] 27))); have HB3 := Aside0.mk (HB2.out.trans (hb3.mono HB2.out.size)); have HB3' := Aside0.mk (HB3.out.trans ((below_alloc (Below.refl w3.heap.size w3) (.cells #[.string np.1, .slice N1 np.2.1.length m1, .slice N2 np.2.2.1.length m2] 27)).mono HB3.out.size)); clear hn hb3) | (go_at_call 16; refine (tf_ref k _ l0 a1 u _ (HL.out.below HB3'.out) HU.out).mono ?_; rintro e w4 ⟨M1, o1, M2, o2, rfl, hu, hb4⟩; have HT4 := Aside0.mk (HT.out.below hb4); have HB4 := Aside0.mk (HB3'.out.trans (hb4.mono HB3'.out.size)); have HBX := Aside0.mk ((hb4.block w3.heap.size (Nat.lt_of_lt_of_le (Nat.lt_succ_self _) (by simp))).trans (heap_alloc_new w3 (.cells #[.string np.1, .slice N1 np.2.1.length m1, .slice N2 np.2.2.1.length m2] 27))); have HB5 := Aside0.mk (HB4.out.trans ((below_alloc (Below.refl w4.heap.size w4) (.cells #[.string u.1, .slice M1 u.2.1.length o1, .slice M2 u.2.2.1.length o2] 27)).mono HB4.out.size)); have HT5 := Aside0.mk (HT4.out.below (below_alloc (Below.refl w4.heap.size w4) (.cells #[.string u.1, .slice M1 u.2.1.length o1, .slice M2 u.2.2.1.length o2] 27))); have HW5 := Aside0.mk (hu.below (below_alloc (Below.refl w4.heap.size w4) (.cells #[.string u.1, .slice M1 u.2.1.length o1, .slice M2 u.2.2.1.length o2] 27))); have hbx := blk_below HBX.out (below_alloc (Below.refl w4.heap.size w4) (.cells #[.string u.1, .slice M1 u.2.1.length o1, .slice M2 u.2.2.1.length o2] 27)); have y0 : (w4.alloc (.cells #[.string u.1, .slice M1 u.2.1.length o1, .slice M2 u.2.2.1.length o2] 27)).cell? ⟨w3.heap.size, 0, none⟩ = some (.string np.1) := (blk_cell hbx 0).trans rfl; have y1 : (w4.alloc (.cells #[.string u.1, .slice M1 u.2.1.length o1, .slice M2 u.2.2.1.length o2] 27)).cell? ⟨w3.heap.size, 1, none⟩ = some (.slice N1 np.2.1.length m1) := (blk_cell hbx 1).trans rfl; have y2 : (w4.alloc (.cells #[.string u.1, .slice M1 u.2.1.length o1, .slice M2 u.2.2.1.length o2] 27)).cell? ⟨w3.heap.size, 2, none⟩ = some (.slice N2 np.2.2.1.length m2) := (blk_cell hbx 2).trans rfl; clear hu hb4 hbx) | (go_at_call 15; refine (tf_same _ _ ⟨np.1, np.2.1, np.2.2.1⟩ ⟨u.1, u.2.1, u.2.2.1⟩ _ HT5.out HW5.out).mono ?_; rintro e w9 ⟨rfl, hb9⟩; have HB9 := Aside0.mk (HB5.out.trans (hb9.mono HB5.out.size)); clear hb9))
 go_ret
 exact ⟨rfl, HB9.out⟩

/-- THE ONE PURE STATEMENT of pentaglotlaw46_AnaphoraAntecedents. -/
def pentaglotlaw46_AnaphoraAntecedents.Pure : Prop := ∀ (p0 : List (S27)) (p1 : Int), (∀ a ∈ p0, wf27 a) → (Lit.int .i64 p1).wf = true → ((p0.map bulk27).sum + 1) + 1 ≤ 1048576 → ∃ k, pentaglotlaw46_AnaphoraAntecedents.f k p0 p1 = some true

end Go.Proofs.Ytfampmajmbediaa.P
