-- Written by the session's own program wip/tools/xprint.py out of the translation, with the kit's print.py on a scratch copy; functions given by hand stand among them.
import Derived.Test.YtolpckflofjfhaaDoorPx0
import Derived.Test.YtolpckflofjfhaaDoorPx1
import Derived.Test.YtolpckflofjfhaaDoorPx6
import Derived.Test.YtolpckflofjfhaaDoorPx8
namespace Go.Proofs.YtolpckflofjfhaaDoor.P
open Go.RowKit Go.Proofs.YtolpckflofjfhaaDoorW.PrintWords Go.Proofs.YtolpckflofjfhaaDoorW.PrintLast Go.Proofs.YtolpckflofjfhaaDoorW.PrintMore
attribute [local go_sem] max2_int min2_int max_two min_two max_three min_three max_four min_four   -- for this text's walks alone
set_option linter.unusedVariables false
set_option linter.unusedSimpArgs false

/-! ### evaluate_load: function 38, by hand -/
-- leans on 44 52 53
def okS (s : ByteArray) : Bool := decide (s.size ≤ 9223372036854775807)
def okI (n : Int) : Bool := decide (-9223372036854775808 ≤ n) && decide (n ≤ 9223372036854775807)
def factOk (x : S62) : Bool := okS x.f0 && (x.f1.all okS && (okI x.f2 && okI x.f3))
def nth (l : List ByteArray) (i : Nat) : ByteArray := l.getD i ⟨#[]⟩
def kvF (x : S62) : Value := kv x.f0 (nth x.f1 0) (nth x.f1 1) (nth x.f1 2) x.f1.length x.f2 x.f3
theorem okS_le {s : ByteArray} (h : okS s = true) : s.size ≤ maxLen := by
 have := of_decide_eq_true h
 simp only [maxLen]
 exact this
theorem okI_wf {n : Int} (h : okI n = true) : (Lit.int .i64 n).wf = true := by
 simp only [okI, Bool.and_eq_true, decide_eq_true_eq] at h
 exact WalkArith.wf_i64 h
theorem nth_ok {l : List ByteArray} (h : l.all okS = true) (i : Nat) : (nth l i).size ≤ maxLen := by
 unfold nth
 rw [List.getD_eq_getElem?_getD]
 cases hx : l[i]? with
 | none => exact Nat.zero_le _
 | some s => exact okS_le (List.all_eq_true.1 h s (List.mem_of_getElem? hx))
theorem kvF_key (x : S62) (h : factOk x = true) (h3 : x.f1.length ≤ 3) : ∃ l, keyOf Tryd.prog 98 (kvF x) = some l := by
 simp only [factOk, Bool.and_eq_true] at h
 obtain ⟨h0, h1, h2, h4⟩ := h
 exact kv_key _ _ _ _ _ _ _ (okS_le h0) (nth_ok h1 0) (nth_ok h1 1) (nth_ok h1 2) (WalkArith.wf_i64 (by omega)) (okI_wf h2) (okI_wf h4)
theorem str_cells {w : World} {A : Option Addr} {l : List ByteArray} (h : Kd.C Kd.string w A l.length l) (hp : 0 < l.length) : ∃ ad, A = some ad ∧ ∀ j v, (l.map Value.string)[j]? = some v → w.cell? (ad.add j) = some v := by
 obtain ⟨ad, rfl, _⟩ := Kd.at_string h 0 (Int.le_refl _) (by omega)
 refine ⟨ad, rfl, fun j v hj => ?_⟩
 obtain ⟨s, hs, rfl⟩ : ∃ s, l[j]? = some s ∧ .string s = v := by simpa using hj
 have hlt : j < l.length := (List.getElem?_eq_some_iff.1 hs).1
 obtain ⟨ad', e, hc⟩ := Kd.at_string h (j : Int) (by omega) (by omega)
 obtain rfl : ad = ad' := by injection e
 rw [Int.toNat_natCast] at hc
 rw [hc]
 unfold rdOf
 rw [Int.toNat_natCast, List.getD_eq_getElem?_getD, hs]
 rfl
theorem kvF_splice (x : S62) (h3 : x.f1.length ≤ 3) (a b c : Value) : splice [.string x.f0, .string ⟨#[]⟩, .string ⟨#[]⟩, .string ⟨#[]⟩, a, b, c] 1 (x.f1.map Value.string) = [.string x.f0, .string (nth x.f1 0), .string (nth x.f1 1), .string (nth x.f1 2), a, b, c] := by
 obtain ⟨f0, f1, f2, f3⟩ := x
 match f1, h3 with
 | [], _ => rfl
 | [a1], _ => rfl
 | [a1, a2], _ => rfl
 | [a1, a2, a3], _ => rfl
/-- The keys of a list of facts. -/
def inF (fs : List S62) (v : Value) : Prop := ∃ x ∈ fs, x.f1.length ≤ 3 ∧ v = kvF x
def loadG (k : Nat) (ds : List S73) (ts : List Int) (id : Int) (fs : List S62) (t : S32) : Option Int :=
 (evaluate_proper.f ds ts id).bind fun p => if p = true then (formula_Valid.f k t.f0 t.f1 t.f2 t.f3 t.f4 t.f5 0).bind fun v => if v = true then (evaluate_work.f k ds ts id t.f0 t.f1 t.f2 t.f3 t.f4 t.f5).bind fun n => if n.2 = true then (if fs.all factOk = true ∧ fs.length < 4398046511104 then some (if 1048576 < n.1 then 2 else 0) else none) else some 1 else some 1 else some 1
/-- Block b is a model of a world. -/
def Md (w : World) (b : Nat) (ds : List S73) (ts : List Int) (id : Int) (fs : List S62) : Prop :=
 ∃ A0 c0 A1 c1 mb n, w.heap[b]? = some (.cells #[.slice A0 ds.length c0, .slice A1 ts.length c1, .int .i64 id, .map (some mb)] 84 (0, 0)) ∧ ds.length ≤ c0 ∧ ts.length ≤ c1 ∧ Kd.C k73 w A0 ds.length ds ∧ Kd.C (Kd.int .i64) w A1 ts.length ts ∧ SetM Tryd.prog 98 4 w mb n (inF fs)
theorem Md_below {w w' : World} {b : Nat} {ds : List S73} {ts : List Int} {id : Int} {fs : List S62} (h : Md w b ds ts id fs) (hb : Below w.heap.size w w') : Md w' b ds ts id fs := by
 obtain ⟨A0, c0, A1, c1, mb, n, h1, h2, h3, h4, h5, h6⟩ := h
 exact ⟨A0, c0, A1, c1, mb, n, blk_below h1 hb, h2, h3, Kd.C_below h4 hb, Kd.C_below h5 hb, setM_below h6 hb (setM_lt h6)⟩
def LoadPost (w : World) (ds : List S73) (ts : List Int) (id : Int) (fs : List S62) (r : Int) (e : Ending) (w' : World) : Prop :=
 (r = 1 ∧ e = .returned (.tuple #[.pointer none, .int .i64 1]) ∨ r ≠ 1 ∧ ∃ b, e = .returned (.tuple #[.pointer (some ⟨b, 0, none⟩), .int .i64 r]) ∧ w.heap.size ≤ b ∧ Md w' b ds ts id fs) ∧ Below w.heap.size w w'
set_option maxHeartbeats 16000000 in
set_option maxRecDepth 100000 in
theorem load_any (k : Nat) (A0 : Option Addr) (c0 : Nat) (ds : List S73) (A1 : Option Addr) (c1 : Nat) (ts : List Int) (id : Int) (A3 : Option Addr) (c3 : Nat) (fs : List S62) (t : S32) (A2 : Option Addr) (c2 : Nat) (A5 : Option Addr) (c5 : Nat) (r : Int) (w : World)
  (hr0 : Kd.C k73 w A0 ds.length ds) (hc0 : ds.length ≤ c0) (hr1 : Kd.C (Kd.int .i64) w A1 ts.length ts) (hc1 : ts.length ≤ c1) (hr3 : Kd.C k62 w A3 fs.length fs) (hr2 : Kd.C k92 w A2 t.f2.length t.f2) (hc2 : t.f2.length ≤ c2) (hr5 : Kd.C k32 w A5 t.f5.length t.f5) (hc5 : t.f5.length ≤ c5) (h : loadG k ds ts id fs t = some r) :
  Calls Tryd.prog 38 #[.agg #[.slice A0 ds.length c0, .slice A1 ts.length c1, .int .i64 id, .slice A3 fs.length c3], .agg #[.int .i64 t.f0, .string t.f1, .slice A2 t.f2.length c2, .int .i64 t.f3, .int .i64 t.f4, .slice A5 t.f5.length c5]] w (LoadPost w ds ts id fs r) := by
 have hu25 := Tryd.underlying25
 have hu28 := Tryd.underlying28
 have hu32 := Tryd.underlying32
 have hu62 := Tryd.underlying62
 have hu84 := Tryd.underlying84
 have hu98 := Tryd.underlying98
 have hmm : ∀ (n : Nat) (w : World), (Instr.makeMap 82 (some (.int .i64 (n : Int)))).run Tryd.prog w = .ok (.map (some w.heap.size)) (w.alloc (.map #[] 0)) := fun n w => by simp [Instr.makeMap, run_underlying Tryd.underlying82, asInt, asIntOf]
 have HR0 := Aside0.mk hr0
 have HR1 := Aside0.mk hr1
 have HR2 := Aside0.mk hr2
 have HR3 := Aside0.mk hr3
 have HR5 := Aside0.mk hr5
 have HL := Aside0.mk (And.intro hc0 (And.intro hc1 (And.intro hc2 hc5)))
 clear hr0 hr1 hr2 hr3 hr5 hc0 hc1 hc2 hc5
 have HB := Aside0.mk (Below.refl w.heap.size w)
 have T1 : True := trivial
 have T2 : True := trivial
 have T3 : True := trivial
 have T4 : True := trivial
 have T5 : True := trivial
 unfold loadG at h
 obtain ⟨p, hp, h⟩ := Option.bind_eq_some_iff.1 h
 have HP := Aside0.mk hp
 clear hp
 cases p with
 | false =>
  rw [if_neg (by decide)] at h
  obtain rfl := Option.some.inj h
  clear h
  go_enter Tryd.func38, Tryd.ntmps38
  go_wp2_with (first
   | (clear T1; (with_reducible refine gate_dst (N := 2) rfl ?_); refine box_event ?hg (N := 2) ?hd (cs := #[.slice A0 ds.length c0, .slice A1 ts.length c1, .int .i64 id, .slice A3 fs.length c3]) (t := 28) ?hr ?_; (case hd => rfl); (case hg => rfl); (case hr => first | (go_simp; done) | (go_simp; rfl)); intro g1 hg w1 hbox hb; have HB1 := Aside0.mk (below_step HB.out hb); have G1 := Aside0.mk (show w.heap.size ≤ g1 by rw [hg]; exact HB.out.size); have BW1 := Aside0.mk hbox; clear hb hbox hg HB)
   | (clear T2; (with_reducible refine gate_dst (N := 3) rfl ?_); refine box_event ?hg (N := 3) ?hd (cs := #[.int .i64 t.f0, .string t.f1, .slice A2 t.f2.length c2, .int .i64 t.f3, .int .i64 t.f4, .slice A5 t.f5.length c5]) (t := 32) ?hr ?_; (case hd => rfl); (case hg => rfl); (case hr => first | (go_simp; done) | (go_simp; rfl)); intro g2 hg w2 hbox hb; have HB2 := Aside0.mk (below_step HB1.out hb); have G2 := Aside0.mk (show w.heap.size ≤ g2 by rw [hg]; exact HB1.out.size); have BW2 := Aside0.mk (blk_below BW1.out hb); have BF2 := Aside0.mk hbox; clear hb hbox hg HB1 BW1; have x0 : w2.cell? ⟨g1, 0, none⟩ = some (.slice A0 ds.length c0) := (blk_cell BW2.out 0).trans rfl; have x1 : w2.cell? ⟨g1, 1, none⟩ = some (.slice A1 ts.length c1) := (blk_cell BW2.out 1).trans rfl; have x2 : w2.cell? ⟨g1, 2, none⟩ = some (.int .i64 id) := (blk_cell BW2.out 2).trans rfl; have x3 : w2.cell? ⟨g1, 3, none⟩ = some (.slice A3 fs.length c3) := (blk_cell BW2.out 3).trans rfl; have y0 : w2.cell? ⟨g2, 0, none⟩ = some (.int .i64 t.f0) := (blk_cell BF2.out 0).trans rfl; have y1 : w2.cell? ⟨g2, 1, none⟩ = some (.string t.f1) := (blk_cell BF2.out 1).trans rfl; have y2 : w2.cell? ⟨g2, 2, none⟩ = some (.slice A2 t.f2.length c2) := (blk_cell BF2.out 2).trans rfl; have y3 : w2.cell? ⟨g2, 3, none⟩ = some (.int .i64 t.f3) := (blk_cell BF2.out 3).trans rfl; have y4 : w2.cell? ⟨g2, 4, none⟩ = some (.int .i64 t.f4) := (blk_cell BF2.out 4).trans rfl; have y5 : w2.cell? ⟨g2, 5, none⟩ = some (.slice A5 t.f5.length c5) := (blk_cell BF2.out 5).trans rfl)
   | (clear T3; go_at_call 44; refine (evaluate_proper.calls A0 c0 ds A1 c1 ts id false _ (Kd.C_below HR0.out HB2.out) HL.out.1 (Kd.C_below HR1.out HB2.out) HL.out.2.1 HP.out).mono ?_; rintro e w3 ⟨rfl, hb⟩; have HB3 := Aside0.mk (below_step HB2.out hb); have BW3 := Aside0.mk (blk_below BW2.out hb); have BF3 := Aside0.mk (blk_below BF2.out hb); clear hb HB2 BW2 BF2; have x'0 : w3.cell? ⟨g1, 0, none⟩ = some (.slice A0 ds.length c0) := (blk_cell BW3.out 0).trans rfl; have x'1 : w3.cell? ⟨g1, 1, none⟩ = some (.slice A1 ts.length c1) := (blk_cell BW3.out 1).trans rfl; have x'2 : w3.cell? ⟨g1, 2, none⟩ = some (.int .i64 id) := (blk_cell BW3.out 2).trans rfl; have x'3 : w3.cell? ⟨g1, 3, none⟩ = some (.slice A3 fs.length c3) := (blk_cell BW3.out 3).trans rfl; have y'0 : w3.cell? ⟨g2, 0, none⟩ = some (.int .i64 t.f0) := (blk_cell BF3.out 0).trans rfl; have y'1 : w3.cell? ⟨g2, 1, none⟩ = some (.string t.f1) := (blk_cell BF3.out 1).trans rfl; have y'2 : w3.cell? ⟨g2, 2, none⟩ = some (.slice A2 t.f2.length c2) := (blk_cell BF3.out 2).trans rfl; have y'3 : w3.cell? ⟨g2, 3, none⟩ = some (.int .i64 t.f3) := (blk_cell BF3.out 3).trans rfl; have y'4 : w3.cell? ⟨g2, 4, none⟩ = some (.int .i64 t.f4) := (blk_cell BF3.out 4).trans rfl; have y'5 : w3.cell? ⟨g2, 5, none⟩ = some (.slice A5 t.f5.length c5) := (blk_cell BF3.out 5).trans rfl))
  go_ret2
  exact ⟨.inl ⟨rfl, rfl⟩, HB3.out⟩
 | true =>
  rw [if_pos rfl] at h
  obtain ⟨v, hv, h⟩ := Option.bind_eq_some_iff.1 h
  have HV := Aside0.mk hv
  clear hv
  cases v with
  | false =>
   rw [if_neg (by decide)] at h
   obtain rfl := Option.some.inj h
   clear h
   go_enter Tryd.func38, Tryd.ntmps38
   go_wp2_with (first
    | (clear T1; (with_reducible refine gate_dst (N := 2) rfl ?_); refine box_event ?hg (N := 2) ?hd (cs := #[.slice A0 ds.length c0, .slice A1 ts.length c1, .int .i64 id, .slice A3 fs.length c3]) (t := 28) ?hr ?_; (case hd => rfl); (case hg => rfl); (case hr => first | (go_simp; done) | (go_simp; rfl)); intro g1 hg w1 hbox hb; have HB1 := Aside0.mk (below_step HB.out hb); have G1 := Aside0.mk (show w.heap.size ≤ g1 by rw [hg]; exact HB.out.size); have BW1 := Aside0.mk hbox; clear hb hbox hg HB)
    | (clear T2; (with_reducible refine gate_dst (N := 3) rfl ?_); refine box_event ?hg (N := 3) ?hd (cs := #[.int .i64 t.f0, .string t.f1, .slice A2 t.f2.length c2, .int .i64 t.f3, .int .i64 t.f4, .slice A5 t.f5.length c5]) (t := 32) ?hr ?_; (case hd => rfl); (case hg => rfl); (case hr => first | (go_simp; done) | (go_simp; rfl)); intro g2 hg w2 hbox hb; have HB2 := Aside0.mk (below_step HB1.out hb); have G2 := Aside0.mk (show w.heap.size ≤ g2 by rw [hg]; exact HB1.out.size); have BW2 := Aside0.mk (blk_below BW1.out hb); have BF2 := Aside0.mk hbox; clear hb hbox hg HB1 BW1; have x0 : w2.cell? ⟨g1, 0, none⟩ = some (.slice A0 ds.length c0) := (blk_cell BW2.out 0).trans rfl; have x1 : w2.cell? ⟨g1, 1, none⟩ = some (.slice A1 ts.length c1) := (blk_cell BW2.out 1).trans rfl; have x2 : w2.cell? ⟨g1, 2, none⟩ = some (.int .i64 id) := (blk_cell BW2.out 2).trans rfl; have x3 : w2.cell? ⟨g1, 3, none⟩ = some (.slice A3 fs.length c3) := (blk_cell BW2.out 3).trans rfl; have y0 : w2.cell? ⟨g2, 0, none⟩ = some (.int .i64 t.f0) := (blk_cell BF2.out 0).trans rfl; have y1 : w2.cell? ⟨g2, 1, none⟩ = some (.string t.f1) := (blk_cell BF2.out 1).trans rfl; have y2 : w2.cell? ⟨g2, 2, none⟩ = some (.slice A2 t.f2.length c2) := (blk_cell BF2.out 2).trans rfl; have y3 : w2.cell? ⟨g2, 3, none⟩ = some (.int .i64 t.f3) := (blk_cell BF2.out 3).trans rfl; have y4 : w2.cell? ⟨g2, 4, none⟩ = some (.int .i64 t.f4) := (blk_cell BF2.out 4).trans rfl; have y5 : w2.cell? ⟨g2, 5, none⟩ = some (.slice A5 t.f5.length c5) := (blk_cell BF2.out 5).trans rfl)
    | (clear T3; go_at_call 44; refine (evaluate_proper.calls A0 c0 ds A1 c1 ts id true _ (Kd.C_below HR0.out HB2.out) HL.out.1 (Kd.C_below HR1.out HB2.out) HL.out.2.1 HP.out).mono ?_; rintro e w3 ⟨rfl, hb⟩; have HB3 := Aside0.mk (below_step HB2.out hb); have BW3 := Aside0.mk (blk_below BW2.out hb); have BF3 := Aside0.mk (blk_below BF2.out hb); clear hb HB2 BW2 BF2; have x'0 : w3.cell? ⟨g1, 0, none⟩ = some (.slice A0 ds.length c0) := (blk_cell BW3.out 0).trans rfl; have x'1 : w3.cell? ⟨g1, 1, none⟩ = some (.slice A1 ts.length c1) := (blk_cell BW3.out 1).trans rfl; have x'2 : w3.cell? ⟨g1, 2, none⟩ = some (.int .i64 id) := (blk_cell BW3.out 2).trans rfl; have x'3 : w3.cell? ⟨g1, 3, none⟩ = some (.slice A3 fs.length c3) := (blk_cell BW3.out 3).trans rfl; have y'0 : w3.cell? ⟨g2, 0, none⟩ = some (.int .i64 t.f0) := (blk_cell BF3.out 0).trans rfl; have y'1 : w3.cell? ⟨g2, 1, none⟩ = some (.string t.f1) := (blk_cell BF3.out 1).trans rfl; have y'2 : w3.cell? ⟨g2, 2, none⟩ = some (.slice A2 t.f2.length c2) := (blk_cell BF3.out 2).trans rfl; have y'3 : w3.cell? ⟨g2, 3, none⟩ = some (.int .i64 t.f3) := (blk_cell BF3.out 3).trans rfl; have y'4 : w3.cell? ⟨g2, 4, none⟩ = some (.int .i64 t.f4) := (blk_cell BF3.out 4).trans rfl; have y'5 : w3.cell? ⟨g2, 5, none⟩ = some (.slice A5 t.f5.length c5) := (blk_cell BF3.out 5).trans rfl)
    | (clear T4; go_at_call 52; refine (formula_Valid.calls k t.f0 t.f1 A2 c2 t.f2 t.f3 t.f4 A5 c5 t.f5 0 false _ (Kd.C_below HR2.out HB3.out) HL.out.2.2.1 (Kd.C_below HR5.out HB3.out) HL.out.2.2.2 HV.out).mono ?_; rintro e w4 ⟨rfl, hb⟩; have HB4 := Aside0.mk (below_step HB3.out hb); have BW4 := Aside0.mk (blk_below BW3.out hb); have BF4 := Aside0.mk (blk_below BF3.out hb); clear hb HB3 BW3 BF3; have x''0 : w4.cell? ⟨g1, 0, none⟩ = some (.slice A0 ds.length c0) := (blk_cell BW4.out 0).trans rfl; have x''1 : w4.cell? ⟨g1, 1, none⟩ = some (.slice A1 ts.length c1) := (blk_cell BW4.out 1).trans rfl; have x''2 : w4.cell? ⟨g1, 2, none⟩ = some (.int .i64 id) := (blk_cell BW4.out 2).trans rfl; have x''3 : w4.cell? ⟨g1, 3, none⟩ = some (.slice A3 fs.length c3) := (blk_cell BW4.out 3).trans rfl; have y''0 : w4.cell? ⟨g2, 0, none⟩ = some (.int .i64 t.f0) := (blk_cell BF4.out 0).trans rfl; have y''1 : w4.cell? ⟨g2, 1, none⟩ = some (.string t.f1) := (blk_cell BF4.out 1).trans rfl; have y''2 : w4.cell? ⟨g2, 2, none⟩ = some (.slice A2 t.f2.length c2) := (blk_cell BF4.out 2).trans rfl; have y''3 : w4.cell? ⟨g2, 3, none⟩ = some (.int .i64 t.f3) := (blk_cell BF4.out 3).trans rfl; have y''4 : w4.cell? ⟨g2, 4, none⟩ = some (.int .i64 t.f4) := (blk_cell BF4.out 4).trans rfl; have y''5 : w4.cell? ⟨g2, 5, none⟩ = some (.slice A5 t.f5.length c5) := (blk_cell BF4.out 5).trans rfl))
   go_ret2
   exact ⟨.inl ⟨rfl, rfl⟩, HB4.out⟩
  | true =>
   rw [if_pos rfl] at h
   obtain ⟨⟨nn, ok⟩, hn, h⟩ := Option.bind_eq_some_iff.1 h
   have HN := Aside0.mk hn
   clear hn
   cases ok with
   | false =>
    rw [if_neg (by simp)] at h
    obtain rfl := Option.some.inj h
    clear h
    go_enter Tryd.func38, Tryd.ntmps38
    go_wp2_with (first
     | (clear T1; (with_reducible refine gate_dst (N := 2) rfl ?_); refine box_event ?hg (N := 2) ?hd (cs := #[.slice A0 ds.length c0, .slice A1 ts.length c1, .int .i64 id, .slice A3 fs.length c3]) (t := 28) ?hr ?_; (case hd => rfl); (case hg => rfl); (case hr => first | (go_simp; done) | (go_simp; rfl)); intro g1 hg w1 hbox hb; have HB1 := Aside0.mk (below_step HB.out hb); have G1 := Aside0.mk (show w.heap.size ≤ g1 by rw [hg]; exact HB.out.size); have BW1 := Aside0.mk hbox; clear hb hbox hg HB)
     | (clear T2; (with_reducible refine gate_dst (N := 3) rfl ?_); refine box_event ?hg (N := 3) ?hd (cs := #[.int .i64 t.f0, .string t.f1, .slice A2 t.f2.length c2, .int .i64 t.f3, .int .i64 t.f4, .slice A5 t.f5.length c5]) (t := 32) ?hr ?_; (case hd => rfl); (case hg => rfl); (case hr => first | (go_simp; done) | (go_simp; rfl)); intro g2 hg w2 hbox hb; have HB2 := Aside0.mk (below_step HB1.out hb); have G2 := Aside0.mk (show w.heap.size ≤ g2 by rw [hg]; exact HB1.out.size); have BW2 := Aside0.mk (blk_below BW1.out hb); have BF2 := Aside0.mk hbox; clear hb hbox hg HB1 BW1; have x0 : w2.cell? ⟨g1, 0, none⟩ = some (.slice A0 ds.length c0) := (blk_cell BW2.out 0).trans rfl; have x1 : w2.cell? ⟨g1, 1, none⟩ = some (.slice A1 ts.length c1) := (blk_cell BW2.out 1).trans rfl; have x2 : w2.cell? ⟨g1, 2, none⟩ = some (.int .i64 id) := (blk_cell BW2.out 2).trans rfl; have x3 : w2.cell? ⟨g1, 3, none⟩ = some (.slice A3 fs.length c3) := (blk_cell BW2.out 3).trans rfl; have y0 : w2.cell? ⟨g2, 0, none⟩ = some (.int .i64 t.f0) := (blk_cell BF2.out 0).trans rfl; have y1 : w2.cell? ⟨g2, 1, none⟩ = some (.string t.f1) := (blk_cell BF2.out 1).trans rfl; have y2 : w2.cell? ⟨g2, 2, none⟩ = some (.slice A2 t.f2.length c2) := (blk_cell BF2.out 2).trans rfl; have y3 : w2.cell? ⟨g2, 3, none⟩ = some (.int .i64 t.f3) := (blk_cell BF2.out 3).trans rfl; have y4 : w2.cell? ⟨g2, 4, none⟩ = some (.int .i64 t.f4) := (blk_cell BF2.out 4).trans rfl; have y5 : w2.cell? ⟨g2, 5, none⟩ = some (.slice A5 t.f5.length c5) := (blk_cell BF2.out 5).trans rfl)
     | (clear T3; go_at_call 44; refine (evaluate_proper.calls A0 c0 ds A1 c1 ts id true _ (Kd.C_below HR0.out HB2.out) HL.out.1 (Kd.C_below HR1.out HB2.out) HL.out.2.1 HP.out).mono ?_; rintro e w3 ⟨rfl, hb⟩; have HB3 := Aside0.mk (below_step HB2.out hb); have BW3 := Aside0.mk (blk_below BW2.out hb); have BF3 := Aside0.mk (blk_below BF2.out hb); clear hb HB2 BW2 BF2; have x'0 : w3.cell? ⟨g1, 0, none⟩ = some (.slice A0 ds.length c0) := (blk_cell BW3.out 0).trans rfl; have x'1 : w3.cell? ⟨g1, 1, none⟩ = some (.slice A1 ts.length c1) := (blk_cell BW3.out 1).trans rfl; have x'2 : w3.cell? ⟨g1, 2, none⟩ = some (.int .i64 id) := (blk_cell BW3.out 2).trans rfl; have x'3 : w3.cell? ⟨g1, 3, none⟩ = some (.slice A3 fs.length c3) := (blk_cell BW3.out 3).trans rfl; have y'0 : w3.cell? ⟨g2, 0, none⟩ = some (.int .i64 t.f0) := (blk_cell BF3.out 0).trans rfl; have y'1 : w3.cell? ⟨g2, 1, none⟩ = some (.string t.f1) := (blk_cell BF3.out 1).trans rfl; have y'2 : w3.cell? ⟨g2, 2, none⟩ = some (.slice A2 t.f2.length c2) := (blk_cell BF3.out 2).trans rfl; have y'3 : w3.cell? ⟨g2, 3, none⟩ = some (.int .i64 t.f3) := (blk_cell BF3.out 3).trans rfl; have y'4 : w3.cell? ⟨g2, 4, none⟩ = some (.int .i64 t.f4) := (blk_cell BF3.out 4).trans rfl; have y'5 : w3.cell? ⟨g2, 5, none⟩ = some (.slice A5 t.f5.length c5) := (blk_cell BF3.out 5).trans rfl)
     | (clear T4; go_at_call 52; refine (formula_Valid.calls k t.f0 t.f1 A2 c2 t.f2 t.f3 t.f4 A5 c5 t.f5 0 true _ (Kd.C_below HR2.out HB3.out) HL.out.2.2.1 (Kd.C_below HR5.out HB3.out) HL.out.2.2.2 HV.out).mono ?_; rintro e w4 ⟨rfl, hb⟩; have HB4 := Aside0.mk (below_step HB3.out hb); have BW4 := Aside0.mk (blk_below BW3.out hb); have BF4 := Aside0.mk (blk_below BF3.out hb); clear hb HB3 BW3 BF3; have x''0 : w4.cell? ⟨g1, 0, none⟩ = some (.slice A0 ds.length c0) := (blk_cell BW4.out 0).trans rfl; have x''1 : w4.cell? ⟨g1, 1, none⟩ = some (.slice A1 ts.length c1) := (blk_cell BW4.out 1).trans rfl; have x''2 : w4.cell? ⟨g1, 2, none⟩ = some (.int .i64 id) := (blk_cell BW4.out 2).trans rfl; have x''3 : w4.cell? ⟨g1, 3, none⟩ = some (.slice A3 fs.length c3) := (blk_cell BW4.out 3).trans rfl; have y''0 : w4.cell? ⟨g2, 0, none⟩ = some (.int .i64 t.f0) := (blk_cell BF4.out 0).trans rfl; have y''1 : w4.cell? ⟨g2, 1, none⟩ = some (.string t.f1) := (blk_cell BF4.out 1).trans rfl; have y''2 : w4.cell? ⟨g2, 2, none⟩ = some (.slice A2 t.f2.length c2) := (blk_cell BF4.out 2).trans rfl; have y''3 : w4.cell? ⟨g2, 3, none⟩ = some (.int .i64 t.f3) := (blk_cell BF4.out 3).trans rfl; have y''4 : w4.cell? ⟨g2, 4, none⟩ = some (.int .i64 t.f4) := (blk_cell BF4.out 4).trans rfl; have y''5 : w4.cell? ⟨g2, 5, none⟩ = some (.slice A5 t.f5.length c5) := (blk_cell BF4.out 5).trans rfl)
     | (clear T5; go_at_call 53; refine (evaluate_work.calls k A0 c0 ds A1 c1 ts id t.f0 t.f1 A2 c2 t.f2 t.f3 t.f4 A5 c5 t.f5 nn false _ (Kd.C_below HR0.out HB4.out) HL.out.1 (Kd.C_below HR1.out HB4.out) HL.out.2.1 (Kd.C_below HR2.out HB4.out) HL.out.2.2.1 (Kd.C_below HR5.out HB4.out) HL.out.2.2.2 HN.out).mono ?_; rintro e w5 ⟨rfl, hb⟩; have HB5 := Aside0.mk (below_step HB4.out hb); have BW5 := Aside0.mk (blk_below BW4.out hb); have BF5 := Aside0.mk (blk_below BF4.out hb); clear hb HB4 BW4 BF4; have x'''0 : w5.cell? ⟨g1, 0, none⟩ = some (.slice A0 ds.length c0) := (blk_cell BW5.out 0).trans rfl; have x'''1 : w5.cell? ⟨g1, 1, none⟩ = some (.slice A1 ts.length c1) := (blk_cell BW5.out 1).trans rfl; have x'''2 : w5.cell? ⟨g1, 2, none⟩ = some (.int .i64 id) := (blk_cell BW5.out 2).trans rfl; have x'''3 : w5.cell? ⟨g1, 3, none⟩ = some (.slice A3 fs.length c3) := (blk_cell BW5.out 3).trans rfl; have y'''0 : w5.cell? ⟨g2, 0, none⟩ = some (.int .i64 t.f0) := (blk_cell BF5.out 0).trans rfl; have y'''1 : w5.cell? ⟨g2, 1, none⟩ = some (.string t.f1) := (blk_cell BF5.out 1).trans rfl; have y'''2 : w5.cell? ⟨g2, 2, none⟩ = some (.slice A2 t.f2.length c2) := (blk_cell BF5.out 2).trans rfl; have y'''3 : w5.cell? ⟨g2, 3, none⟩ = some (.int .i64 t.f3) := (blk_cell BF5.out 3).trans rfl; have y'''4 : w5.cell? ⟨g2, 4, none⟩ = some (.int .i64 t.f4) := (blk_cell BF5.out 4).trans rfl; have y'''5 : w5.cell? ⟨g2, 5, none⟩ = some (.slice A5 t.f5.length c5) := (blk_cell BF5.out 5).trans rfl))
    go_ret2
    exact ⟨.inl ⟨rfl, rfl⟩, HB5.out⟩
   | true =>
    rw [if_pos rfl] at h
    by_cases hf : fs.all factOk = true ∧ fs.length < 4398046511104
    case neg => rw [if_neg hf] at h; cases h
    rw [if_pos hf] at h
    have HF := Aside0.mk hf
    clear hf
    obtain ⟨rr, hr0⟩ : ∃ rr : Int, rr = if 1048576 < nn then 2 else 0 := ⟨_, rfl⟩
    rw [← hr0] at h
    obtain rfl := Option.some.inj h
    have hrr := hr0
    clear hr0
    have HRR := Aside0.mk hrr
    clear h hrr
    go_enter Tryd.func38, Tryd.ntmps38
    go_wp2_with (first
     | (clear T1; (with_reducible refine gate_dst (N := 2) rfl ?_); refine box_event ?hg (N := 2) ?hd (cs := #[.slice A0 ds.length c0, .slice A1 ts.length c1, .int .i64 id, .slice A3 fs.length c3]) (t := 28) ?hr ?_; (case hd => rfl); (case hg => rfl); (case hr => first | (go_simp; done) | (go_simp; rfl)); intro g1 hg w1 hbox hb; have HB1 := Aside0.mk (below_step HB.out hb); have G1 := Aside0.mk (show w.heap.size ≤ g1 by rw [hg]; exact HB.out.size); have BW1 := Aside0.mk hbox; clear hb hbox hg HB)
     | (clear T2; (with_reducible refine gate_dst (N := 3) rfl ?_); refine box_event ?hg (N := 3) ?hd (cs := #[.int .i64 t.f0, .string t.f1, .slice A2 t.f2.length c2, .int .i64 t.f3, .int .i64 t.f4, .slice A5 t.f5.length c5]) (t := 32) ?hr ?_; (case hd => rfl); (case hg => rfl); (case hr => first | (go_simp; done) | (go_simp; rfl)); intro g2 hg w2 hbox hb; have HB2 := Aside0.mk (below_step HB1.out hb); have G2 := Aside0.mk (show w.heap.size ≤ g2 by rw [hg]; exact HB1.out.size); have BW2 := Aside0.mk (blk_below BW1.out hb); have BF2 := Aside0.mk hbox; clear hb hbox hg HB1 BW1; have x0 : w2.cell? ⟨g1, 0, none⟩ = some (.slice A0 ds.length c0) := (blk_cell BW2.out 0).trans rfl; have x1 : w2.cell? ⟨g1, 1, none⟩ = some (.slice A1 ts.length c1) := (blk_cell BW2.out 1).trans rfl; have x2 : w2.cell? ⟨g1, 2, none⟩ = some (.int .i64 id) := (blk_cell BW2.out 2).trans rfl; have x3 : w2.cell? ⟨g1, 3, none⟩ = some (.slice A3 fs.length c3) := (blk_cell BW2.out 3).trans rfl; have y0 : w2.cell? ⟨g2, 0, none⟩ = some (.int .i64 t.f0) := (blk_cell BF2.out 0).trans rfl; have y1 : w2.cell? ⟨g2, 1, none⟩ = some (.string t.f1) := (blk_cell BF2.out 1).trans rfl; have y2 : w2.cell? ⟨g2, 2, none⟩ = some (.slice A2 t.f2.length c2) := (blk_cell BF2.out 2).trans rfl; have y3 : w2.cell? ⟨g2, 3, none⟩ = some (.int .i64 t.f3) := (blk_cell BF2.out 3).trans rfl; have y4 : w2.cell? ⟨g2, 4, none⟩ = some (.int .i64 t.f4) := (blk_cell BF2.out 4).trans rfl; have y5 : w2.cell? ⟨g2, 5, none⟩ = some (.slice A5 t.f5.length c5) := (blk_cell BF2.out 5).trans rfl)
     | (clear T3; go_at_call 44; refine (evaluate_proper.calls A0 c0 ds A1 c1 ts id true _ (Kd.C_below HR0.out HB2.out) HL.out.1 (Kd.C_below HR1.out HB2.out) HL.out.2.1 HP.out).mono ?_; rintro e w3 ⟨rfl, hb⟩; have HB3 := Aside0.mk (below_step HB2.out hb); have BW3 := Aside0.mk (blk_below BW2.out hb); have BF3 := Aside0.mk (blk_below BF2.out hb); clear hb HB2 BW2 BF2; have x'0 : w3.cell? ⟨g1, 0, none⟩ = some (.slice A0 ds.length c0) := (blk_cell BW3.out 0).trans rfl; have x'1 : w3.cell? ⟨g1, 1, none⟩ = some (.slice A1 ts.length c1) := (blk_cell BW3.out 1).trans rfl; have x'2 : w3.cell? ⟨g1, 2, none⟩ = some (.int .i64 id) := (blk_cell BW3.out 2).trans rfl; have x'3 : w3.cell? ⟨g1, 3, none⟩ = some (.slice A3 fs.length c3) := (blk_cell BW3.out 3).trans rfl; have y'0 : w3.cell? ⟨g2, 0, none⟩ = some (.int .i64 t.f0) := (blk_cell BF3.out 0).trans rfl; have y'1 : w3.cell? ⟨g2, 1, none⟩ = some (.string t.f1) := (blk_cell BF3.out 1).trans rfl; have y'2 : w3.cell? ⟨g2, 2, none⟩ = some (.slice A2 t.f2.length c2) := (blk_cell BF3.out 2).trans rfl; have y'3 : w3.cell? ⟨g2, 3, none⟩ = some (.int .i64 t.f3) := (blk_cell BF3.out 3).trans rfl; have y'4 : w3.cell? ⟨g2, 4, none⟩ = some (.int .i64 t.f4) := (blk_cell BF3.out 4).trans rfl; have y'5 : w3.cell? ⟨g2, 5, none⟩ = some (.slice A5 t.f5.length c5) := (blk_cell BF3.out 5).trans rfl)
     | (clear T4; go_at_call 52; refine (formula_Valid.calls k t.f0 t.f1 A2 c2 t.f2 t.f3 t.f4 A5 c5 t.f5 0 true _ (Kd.C_below HR2.out HB3.out) HL.out.2.2.1 (Kd.C_below HR5.out HB3.out) HL.out.2.2.2 HV.out).mono ?_; rintro e w4 ⟨rfl, hb⟩; have HB4 := Aside0.mk (below_step HB3.out hb); have BW4 := Aside0.mk (blk_below BW3.out hb); have BF4 := Aside0.mk (blk_below BF3.out hb); clear hb HB3 BW3 BF3; have x''0 : w4.cell? ⟨g1, 0, none⟩ = some (.slice A0 ds.length c0) := (blk_cell BW4.out 0).trans rfl; have x''1 : w4.cell? ⟨g1, 1, none⟩ = some (.slice A1 ts.length c1) := (blk_cell BW4.out 1).trans rfl; have x''2 : w4.cell? ⟨g1, 2, none⟩ = some (.int .i64 id) := (blk_cell BW4.out 2).trans rfl; have x''3 : w4.cell? ⟨g1, 3, none⟩ = some (.slice A3 fs.length c3) := (blk_cell BW4.out 3).trans rfl; have y''0 : w4.cell? ⟨g2, 0, none⟩ = some (.int .i64 t.f0) := (blk_cell BF4.out 0).trans rfl; have y''1 : w4.cell? ⟨g2, 1, none⟩ = some (.string t.f1) := (blk_cell BF4.out 1).trans rfl; have y''2 : w4.cell? ⟨g2, 2, none⟩ = some (.slice A2 t.f2.length c2) := (blk_cell BF4.out 2).trans rfl; have y''3 : w4.cell? ⟨g2, 3, none⟩ = some (.int .i64 t.f3) := (blk_cell BF4.out 3).trans rfl; have y''4 : w4.cell? ⟨g2, 4, none⟩ = some (.int .i64 t.f4) := (blk_cell BF4.out 4).trans rfl; have y''5 : w4.cell? ⟨g2, 5, none⟩ = some (.slice A5 t.f5.length c5) := (blk_cell BF4.out 5).trans rfl)
     | (clear T5; go_at_call 53; refine (evaluate_work.calls k A0 c0 ds A1 c1 ts id t.f0 t.f1 A2 c2 t.f2 t.f3 t.f4 A5 c5 t.f5 nn true _ (Kd.C_below HR0.out HB4.out) HL.out.1 (Kd.C_below HR1.out HB4.out) HL.out.2.1 (Kd.C_below HR2.out HB4.out) HL.out.2.2.1 (Kd.C_below HR5.out HB4.out) HL.out.2.2.2 HN.out).mono ?_; rintro e w5 ⟨rfl, hb⟩; have HB5 := Aside0.mk (below_step HB4.out hb); have BW5 := Aside0.mk (blk_below BW4.out hb); have BF5 := Aside0.mk (blk_below BF4.out hb); clear hb HB4 BW4 BF4; have x'''0 : w5.cell? ⟨g1, 0, none⟩ = some (.slice A0 ds.length c0) := (blk_cell BW5.out 0).trans rfl; have x'''1 : w5.cell? ⟨g1, 1, none⟩ = some (.slice A1 ts.length c1) := (blk_cell BW5.out 1).trans rfl; have x'''2 : w5.cell? ⟨g1, 2, none⟩ = some (.int .i64 id) := (blk_cell BW5.out 2).trans rfl; have x'''3 : w5.cell? ⟨g1, 3, none⟩ = some (.slice A3 fs.length c3) := (blk_cell BW5.out 3).trans rfl; have y'''0 : w5.cell? ⟨g2, 0, none⟩ = some (.int .i64 t.f0) := (blk_cell BF5.out 0).trans rfl; have y'''1 : w5.cell? ⟨g2, 1, none⟩ = some (.string t.f1) := (blk_cell BF5.out 1).trans rfl; have y'''2 : w5.cell? ⟨g2, 2, none⟩ = some (.slice A2 t.f2.length c2) := (blk_cell BF5.out 2).trans rfl; have y'''3 : w5.cell? ⟨g2, 3, none⟩ = some (.int .i64 t.f3) := (blk_cell BF5.out 3).trans rfl; have y'''4 : w5.cell? ⟨g2, 4, none⟩ = some (.int .i64 t.f4) := (blk_cell BF5.out 4).trans rfl; have y'''5 : w5.cell? ⟨g2, 5, none⟩ = some (.slice A5 t.f5.length c5) := (blk_cell BF5.out 5).trans rfl))
    refine start_ (n := 9) (S := fun w' => w'.cell? ⟨g1, 0, none⟩ = some (.slice A0 ds.length c0) ∧ w'.cell? ⟨g1, 1, none⟩ = some (.slice A1 ts.length c1) ∧ w'.cell? ⟨g1, 2, none⟩ = some (.int .i64 id) ∧ w'.cell? ⟨g1, 3, none⟩ = some (.slice A3 fs.length c3)) (ds := [7]) (Array.replicate 9 false) (by kernel_rfl) rfl rfl ⟨(blk_cell (blk_drew BW5.out) 0).trans rfl, (blk_cell (blk_drew BW5.out) 1).trans rfl, (blk_cell (blk_drew BW5.out) 2).trans rfl, (blk_cell (blk_drew BW5.out) 3).trans rfl⟩ (fun hHeld => ?_)
    refine pu_ 0 (some 30) ?_
    refine tk_ 1 (some 31) hHeld ?_
    refine pu_ 2 (some 32) ?_
    refine tk_ 3 (some 33) hHeld ?_
    refine pu_ 4 (some 34) ?_
    refine on_ 5 (some 35) (fun K hK => ?_)
    refine value_ (w1 := ?_) (v := ?_) (by rfl) rfl ?_ ?_
    rotate_left 2
    ·go_simp
     constructor
     ·rfl
     ·rfl
    refine hK.out _ _ ⟨(blk_cell (blk_alloc (blk_drew BW5.out) _) 0).trans rfl, (blk_cell (blk_alloc (blk_drew BW5.out) _) 1).trans rfl, (blk_cell (blk_alloc (blk_drew BW5.out) _) 2).trans rfl, (blk_cell (blk_alloc (blk_drew BW5.out) _) 3).trans rfl⟩ (fun hHeld => ?_)
    clear hK K
    refine no_ (N := some 35) ?_
    refine pu_ 6 (some 36) ?_
    refine la_ 7 (some 37) (fun K hK => ?_)
    refine value_ (w1 := ?_) (v := ?_) (by rfl) rfl ?_ ?_
    rotate_left 2
    ·go_simp
     constructor
     ·rfl
     ·rfl
    refine hK.out _ _ ?_
    clear hK K
    refine no_ (N := some 37) ?_
    refine pu_ 8 (some 8) ?_
    refine done_ (by kernel_rfl) ?_
    generalize hW6 : ((w5.alloc (.map #[] 0)).alloc (.cells #[.slice A0 ds.length c0, .slice A1 ts.length c1, .int .i64 id, .map (some w5.heap.size)] 84)).drew = w6
    have HB6 : Aside0 (Below w.heap.size w w6) := ⟨by rw [← hW6]; exact below_drew (below_alloc (below_alloc HB5.out _) _)⟩
    have BW6 : Aside0 (w6.heap[g1]? = some (.cells #[.slice A0 ds.length c0, .slice A1 ts.length c1, .int .i64 id, .slice A3 fs.length c3] 28 (0, 0))) := ⟨by rw [← hW6]; exact blk_alloc (blk_alloc (blk_drew BW5.out) _) _⟩
    have BM6 : Aside0 (w6.heap[w5.heap.size + 1]? = some (.cells #[.slice A0 ds.length c0, .slice A1 ts.length c1, .int .i64 id, .map (some w5.heap.size)] 84 (0, 0))) := ⟨by
     rw [← hW6]
     have h1 := heap_alloc_new (w5.alloc (.map #[] 0)) (.cells #[.slice A0 ds.length c0, .slice A1 ts.length c1, .int .i64 id, .map (some w5.heap.size)] 84)
     rw [World.size_alloc] at h1
     exact h1⟩
    have SM6 : Aside0 (SetM Tryd.prog 98 4 w6 w5.heap.size 0 (inF (fs.take 0))) := ⟨by
     rw [← hW6]
     refine setM_congr (setM_below (setM_made (P := Tryd.prog) (K := 98) (E := 4) w5) (below_drew (below_alloc (Below.refl _ _) _)) (by rw [World.size_alloc]; exact Nat.lt_succ_self _)) (fun v => ⟨fun h => h.elim, ?_⟩)
     rintro ⟨x, hx, _⟩
     simp at hx⟩
    have GZ6 : Aside0 (g1 < w5.heap.size ∧ w5.heap.size + 1 < w6.heap.size ∧ w.heap.size ≤ w5.heap.size) := ⟨blk_lt BW5.out, blk_lt BM6.out, HB5.out.size⟩
    clear hW6 HB5 BW5 BF5
    clear x'''0 x'''1 x'''2 x'''3 y'''0 y'''1 y'''2 y'''3 y'''4 y'''5
    clear x''0 x''1 x''2 x''3 y''0 y''1 y''2 y''3 y''4 y''5
    clear x'0 x'1 x'2 x'3 y'0 y'1 y'2 y'3 y'4 y'5
    clear x0 x1 x2 x3 y0 y1 y2 y3 y4 y5
    obtain ⟨bm, hbm⟩ : ∃ bm, w5.heap.size + 1 = bm := ⟨_, rfl⟩
    rw [hbm] at BM6 GZ6 ⊢
    generalize w5.heap.size = mb at BM6 SM6 GZ6 hbm ⊢
    have HBM := Aside0.mk hbm
    clear hbm
    have x0 : w6.cell? ⟨g1, 0, none⟩ = some (.slice A0 ds.length c0) := (blk_cell BW6.out 0).trans rfl
    have x1 : w6.cell? ⟨g1, 1, none⟩ = some (.slice A1 ts.length c1) := (blk_cell BW6.out 1).trans rfl
    have x2 : w6.cell? ⟨g1, 2, none⟩ = some (.int .i64 id) := (blk_cell BW6.out 2).trans rfl
    have x3 : w6.cell? ⟨g1, 3, none⟩ = some (.slice A3 fs.length c3) := (blk_cell BW6.out 3).trans rfl
    go_wp2
    clear x0 x1 x2 x3
    go_loopw [41] (fun v wr => ∃ (i : Int), v = .int .i64 i ∧ Aside0 (0 ≤ i) ∧ Aside0 (i ≤ (fs.length : Int)) ∧ Aside0 (wr.heap[g1]? = some (.cells #[.slice A0 ds.length c0, .slice A1 ts.length c1, .int .i64 id, .slice A3 fs.length c3] 28 (0, 0))) ∧ Aside0 (wr.heap[bm]? = some (.cells #[.slice A0 ds.length c0, .slice A1 ts.length c1, .int .i64 id, .map (some mb)] 84 (0, 0))) ∧ Aside0 (SetM Tryd.prog 98 4 wr mb i.toNat (inF (fs.take i.toNat))) ∧ Aside0 (Below w.heap.size w wr)) (fun v _ => fs.length - (intOf v).toNat)
    case atStart => exact ⟨0, rfl, ⟨Int.le_refl _⟩, ⟨by omega⟩, BW6, BM6, SM6, HB6⟩
    case round =>
     clear BW6 BM6 SM6 HB6
     obtain ⟨i, rfl, H0, HK, BW, BM, SM, HB⟩ := hrel
     by_cases hlt : i < (fs.length : Int)
     ·have h0 := H0.out
      have hk : i.toNat < fs.length := by omega
      obtain ⟨ad, Ae, ce, rfl, hx0, hx1, hx2, hx3, hl1, hg1⟩ := at_T62 (Kd.C_below HR3.out HB.out) i h0 hlt
      have p0 : (0 ≤ i) = True := eq_true h0
      have p1 : (i < (fs.length : Int)) = True := eq_true hlt
      have hxe : rd_T62 fs i = fs[i.toNat] := by unfold rd_T62; rw [List.getD_eq_getElem?_getD, List.getElem?_eq_getElem hk]; rfl
      have hok : factOk (rd_T62 fs i) = true := by rw [hxe]; exact List.all_eq_true.1 HF.out.1 _ (List.getElem_mem hk)
      have htk : ∀ v, inF (fs.take (i.toNat + 1)) v ↔ inF (fs.take i.toNat) v ∨ ((rd_T62 fs i).f1.length ≤ 3 ∧ v = kvF (rd_T62 fs i)) := by
       intro v
       unfold inF
       rw [List.take_succ_eq_append_getElem hk, ← hxe]
       simp only [List.mem_append, List.mem_singleton]
       constructor
       ·rintro ⟨y, hy | rfl, h1, rfl⟩
        ·exact .inl ⟨y, hy, h1, rfl⟩
        ·exact .inr ⟨h1, rfl⟩
       ·rintro (⟨y, hy, h1, rfl⟩ | ⟨h1, rfl⟩)
        ·exact ⟨y, .inl hy, h1, rfl⟩
        ·exact ⟨_, .inr rfl, h1, rfl⟩
      obtain ⟨x, hx⟩ : ∃ x, x = rd_T62 fs i := ⟨_, rfl⟩
      rw [← hx] at hx0 hx1 hx2 hx3 hl1 hg1 hok htk
      clear hx hxe
      have e1 : wrap64 (i + 1) = i + 1 := by have := HF.out.2; unfold wrap64; omega
      have ei : (i + 1).toNat = i.toNat + 1 := by omega
      by_cases h3 : (3 : Int) < (x.f1.length : Int)
      ·have hc3 : decide ((3 : Int) < (x.f1.length : Int)) = true := decide_eq_true h3
       have SM' := Aside0.mk (setM_mono (setM_congr (S' := inF (fs.take (i.toNat + 1))) (setM_below SM.out (below_alloc (Below.refl wr.heap.size wr) (.cells #[.string x.f0, .slice Ae x.f1.length ce, .int .i64 x.f2, .int .i64 x.f3] 62)) (setM_lt SM.out)) (fun v => by rw [htk v]; exact ⟨.inl, fun h => h.elim (fun h => h) (fun h => absurd h.1 (by omega))⟩)) (Nat.le_succ _))
       have HB' := Aside0.mk (below_alloc HB.out (.cells #[.string x.f0, .slice Ae x.f1.length ce, .int .i64 x.f2, .int .i64 x.f3] 62))
       have BW' := Aside0.mk (blk_alloc BW.out (.cells #[.string x.f0, .slice Ae x.f1.length ce, .int .i64 x.f2, .int .i64 x.f3] 62))
       have BM' := Aside0.mk (blk_alloc BM.out (.cells #[.string x.f0, .slice Ae x.f1.length ce, .int .i64 x.f2, .int .i64 x.f3] 62))
       clear hok htk hg1 hl1 h3 SM HB BW BM
       go_wp2
       go_roundw
       case rel => exact ⟨i + 1, by rw [e1], ⟨by omega⟩, ⟨by omega⟩, BW', BM', by rw [ei]; exact SM', HB'⟩
       case measure => rw [e1]; simp only [intOf]; omega
      ·have hc3 : decide ((3 : Int) < (x.f1.length : Int)) = false := decide_eq_false h3
       have hlen : x.f1.length ≤ 3 := by omega
       obtain ⟨kl, hkl⟩ := kvF_key x hok hlen
       have HKL := Aside0.mk hkl
       have HTK := Aside0.mk htk
       have HLX := Aside0.mk hlen
       have HGX := Aside0.mk (Kd.C_below hg1 (Below.refl wr.heap.size wr))
       have hW : wr.heap.size + 1 = wr.heap.size + 1 := rfl
       clear hok htk hg1 hl1 h3 hkl hlen hW
       go_upto_region 12 with (fail)
       generalize hW : (wr.alloc (.cells #[.string x.f0, .slice Ae x.f1.length ce, .int .i64 x.f2, .int .i64 x.f3] 62)).alloc (.cells #[.string x.f0, .string ⟨#[]⟩, .string ⟨#[]⟩, .string ⟨#[]⟩, .int .i64 x.f1.length, .int .i64 x.f2, .int .i64 x.f3] 98) = w7
       have HB7 : Aside0 (Below wr.heap.size wr w7) := ⟨by rw [← hW]; exact below_alloc (below_alloc (Below.refl _ _) _) _⟩
       have BE7 : Aside0 (w7.heap[wr.heap.size]? = some (.cells #[.string x.f0, .slice Ae x.f1.length ce, .int .i64 x.f2, .int .i64 x.f3] 62 (0, 0))) := ⟨by rw [← hW]; exact blk_alloc (heap_alloc_new _ _) _⟩
       have BK7 : Aside0 (w7.heap[wr.heap.size + 1]? = some (.cells #[.string x.f0, .string ⟨#[]⟩, .string ⟨#[]⟩, .string ⟨#[]⟩, .int .i64 x.f1.length, .int .i64 x.f2, .int .i64 x.f3] 98 (0, 0))) := ⟨by
        rw [← hW]
        have h1 := heap_alloc_new (wr.alloc (.cells #[.string x.f0, .slice Ae x.f1.length ce, .int .i64 x.f2, .int .i64 x.f3] 62)) (.cells #[.string x.f0, .string ⟨#[]⟩, .string ⟨#[]⟩, .string ⟨#[]⟩, .int .i64 x.f1.length, .int .i64 x.f2, .int .i64 x.f3] 98)
        rw [World.size_alloc] at h1
        exact h1⟩
       clear hW hx0 hx1 hx2 hx3
       refine start_ (n := 5) (S := fun w' => w'.cell? ⟨wr.heap.size, 1, none⟩ = some (.slice Ae x.f1.length ce)) (ds := [4]) (Array.replicate 5 false) (by kernel_rfl) rfl rfl ((blk_cell (blk_drew BE7.out) 1).trans rfl) (fun hHeld => ?_)
       refine pu_ 0 (some 59) ?_
       refine pu_ 1 (some 60) ?_
       refine pu_ 2 (some 61) ?_
       refine tk_ 3 (some 62) hHeld ?_
       refine la_ 4 (some 63) (fun K hK => ?_)
       refine step_copy_splice rfl (.tmp 60) (.tmp 62) 60 60 rfl 9 Tryd.underlying60 (by kernel_rfl) _ Ae 3 3 x.f1.length ce (by rfl) (by rfl) (wr.heap.size + 1) 1 [.string x.f0, .string ⟨#[]⟩, .string ⟨#[]⟩, .string ⟨#[]⟩, .int .i64 x.f1.length, .int .i64 x.f2, .int .i64 x.f3] 98 (blk_drew BK7.out) (x.f1.map Value.string) (by rw [List.length_map]; exact (Nat.min_eq_left HLX.out).symm) (fun hp => ⟨rfl, str_cells (Kd.C_below HGX.out (below_drew HB7.out)) (by simpa using hp)⟩) (by have := HLX.out; simp; omega) (by intro v hv; obtain ⟨s, _, rfl⟩ := List.mem_map.1 hv; rfl) wr.heap.size wr (below_drew HB7.out) (by omega) ?_
       intro w8 hk8 hb8
       refine hK.out _ _ ?_
       clear hK K
       refine no_ (N := some 63) ?_
       refine done_ (by kernel_rfl) ?_
       have HK8 := Aside0.mk (show w8.heap[wr.heap.size + 1]? = some (.cells #[.string x.f0, .string (nth x.f1 0), .string (nth x.f1 1), .string (nth x.f1 2), .int .i64 x.f1.length, .int .i64 x.f2, .int .i64 x.f3] 98 (0, 0)) from by have h := hk8.out; rw [kvF_splice x HLX.out] at h; exact h)
       have HB8 := Aside0.mk (HB.out.trans (hb8.mono HB.out.size))
       have BM8 := Aside0.mk (blk_below BM.out hb8)
       have BW8 := Aside0.mk (blk_below BW.out hb8)
       have SM8 := Aside0.mk (setM_below SM.out hb8 (setM_lt SM.out))
       have GG : Aside0 (wr.heap.size ≤ w8.heap.size) := ⟨hb8.size⟩
       clear hk8 hb8 BM BW SM HB HB7 BE7 BK7
       go_wp2
       refine start_ (n := 6) (S := fun w' => w'.cell? ⟨bm, 0, none⟩ = some (.slice A0 ds.length c0) ∧ w'.cell? ⟨bm, 1, none⟩ = some (.slice A1 ts.length c1) ∧ w'.cell? ⟨bm, 2, none⟩ = some (.int .i64 id) ∧ w'.cell? ⟨bm, 3, none⟩ = some (.map (some mb)) ∧ w'.cell? ⟨wr.heap.size + 1, 0, none⟩ = some (.string x.f0) ∧ w'.cell? ⟨wr.heap.size + 1, 1, none⟩ = some (.string (nth x.f1 0)) ∧ w'.cell? ⟨wr.heap.size + 1, 2, none⟩ = some (.string (nth x.f1 1)) ∧ w'.cell? ⟨wr.heap.size + 1, 3, none⟩ = some (.string (nth x.f1 2)) ∧ w'.cell? ⟨wr.heap.size + 1, 4, none⟩ = some (.int .i64 x.f1.length) ∧ w'.cell? ⟨wr.heap.size + 1, 5, none⟩ = some (.int .i64 x.f2) ∧ w'.cell? ⟨wr.heap.size + 1, 6, none⟩ = some (.int .i64 x.f3)) (ds := [5]) (Array.replicate 6 false) (by kernel_rfl) rfl rfl ⟨(blk_cell (blk_drew BM8.out) 0).trans rfl, (blk_cell (blk_drew BM8.out) 1).trans rfl, (blk_cell (blk_drew BM8.out) 2).trans rfl, (blk_cell (blk_drew BM8.out) 3).trans rfl, (blk_cell (blk_drew HK8.out) 0).trans rfl, (blk_cell (blk_drew HK8.out) 1).trans rfl, (blk_cell (blk_drew HK8.out) 2).trans rfl, (blk_cell (blk_drew HK8.out) 3).trans rfl, (blk_cell (blk_drew HK8.out) 4).trans rfl, (blk_cell (blk_drew HK8.out) 5).trans rfl, (blk_cell (blk_drew HK8.out) 6).trans rfl⟩ (fun hHeld => ?_)
       refine pu_ 0 (some 64) ?_
       refine pu_ 1 (some 65) ?_
       refine pu_ 2 (some 66) ?_
       refine tk_ 3 (some 67) hHeld ?_
       refine tk_ 4 (some 68) hHeld ?_
       refine la_ 5 (none) (fun K hK => ?_)
       refine step_put rfl rfl (.tmp 67) (.tmp 68) (.const (.bool true)) 82 rfl law98 Tryd.underlying82 Tryd.underlying4 mb i.toNat (inF (fs.take i.toNat)) (by rfl) (setM_below SM8.out (below_drew (Below.refl _ _)) (setM_lt SM8.out)) (by have := HF.out.2; simp only [maxLen]; omega) (kvF x) kl (by rfl) (by rfl) HKL.out ?_
       intro w9 hm9 hg9
       have SM9 := Aside0.mk (setM_congr (S' := inF (fs.take (i.toNat + 1))) hm9 (fun v => by rw [HTK.out v]; exact ⟨fun h => h.elim .inl (fun h => .inr ⟨HLX.out, h⟩), fun h => h.elim .inl (fun h => .inr h.2)⟩))
       have HB9 := Aside0.mk (grown_below (below_drew HB8.out) hg9 GZ6.out.2.2 HB8.out.size)
       have BM9 : Aside0 (w9.heap[bm]? = some (.cells #[.slice A0 ds.length c0, .slice A1 ts.length c1, .int .i64 id, .map (some mb)] 84 (0, 0))) := ⟨(hg9.block _ (blk_lt BM8.out) (by have := HBM.out; simp; omega)).trans BM8.out⟩
       have BW9 := Aside0.mk ((hg9.block _ (blk_lt BW8.out) (by have := GZ6.out.1; simp; omega)).trans BW8.out)
       clear hm9 hg9
       refine hK.out _ _ ?_
       clear hK K
       refine done_ (by kernel_rfl) ?_
       go_wp2
       go_roundw
       case rel => exact ⟨i + 1, by rw [e1], ⟨by omega⟩, ⟨by omega⟩, BW9, BM9, by rw [ei]; exact SM9, HB9⟩
       case measure => rw [e1]; simp only [intOf]; omega
     ·obtain rfl : i = (fs.length : Int) := by have := HK.out; omega
      have SMF : Aside0 (SetM Tryd.prog 98 4 wr mb fs.length (inF fs)) := ⟨by have h := SM.out; rw [Int.toNat_natCast, List.take_length] at h; exact h⟩
      have MDF : Aside0 (Md wr bm ds ts id fs) := ⟨⟨A0, c0, A1, c1, mb, _, BM.out, HL.out.1, HL.out.2.1, Kd.C_below HR0.out HB.out, Kd.C_below HR1.out HB.out, SMF.out⟩⟩
      by_cases hn : 1048576 < nn
      ·have hn1 : decide (1048576 < nn) = true := decide_eq_true hn
       obtain rfl : rr = 2 := by have h := HRR.out; rw [if_pos hn] at h; exact h
       clear hn HRR
       go_wp2
       go_ret2
       exact ⟨.inr ⟨by decide, bm, rfl, by have := GZ6.out.2.2; have := HBM.out; omega, MDF.out⟩, HB.out⟩
      ·have hn1 : decide (1048576 < nn) = false := decide_eq_false hn
       obtain rfl : rr = 0 := by have h := HRR.out; rw [if_neg hn] at h; exact h
       clear hn HRR
       go_wp2
       go_ret2
       exact ⟨.inr ⟨by decide, bm, rfl, by have := GZ6.out.2.2; have := HBM.out; omega, MDF.out⟩, HB.out⟩

/-! ### evaluate_model_inside: function 39, by hand -/
-- leans on 38
def insideB (ts : List Int) (id co m : Int) : Bool := decide (0 ≤ co) && (decide (co ≤ id) && (decide (0 ≤ m) && decide (m ≤ 2 * (ts.length : Int))))
theorem C_nil (w : World) : Kd.C Kd.string w none ([] : List ByteArray).length [] := ⟨rfl, by decide, fun h => absurd h (by decide)⟩
set_option maxHeartbeats 8000000 in
set_option maxRecDepth 100000 in
theorem inside_any (b : Nat) (ds : List S73) (ts : List Int) (id : Int) (fs : List S62) (co m : Int) (w : World) (hmd : Md w b ds ts id fs) (hl : ts.length < 4398046511104) :
  Calls Tryd.prog 39 #[.pointer (some ⟨b, 0, none⟩), .int .i64 co, .int .i64 m] w fun e w' => e = .returned (.bool (insideB ts id co m)) ∧ w' = w := by
 have hu84 := Tryd.underlying84
 have hu25 := Tryd.underlying25
 obtain ⟨A0, c0, A1, c1, mb, nm, hm, _, _, _, _, _⟩ := hmd
 have m1 : w.cell? ⟨b, 1, none⟩ = some (.slice A1 ts.length c1) := (blk_cell hm 1).trans rfl
 have m2 : w.cell? ⟨b, 2, none⟩ = some (.int .i64 id) := (blk_cell hm 2).trans rfl
 obtain ⟨q, hq⟩ : ∃ q : Int, q = 2 * (ts.length : Int) := ⟨_, rfl⟩
 have hqw : wrap64 (2 * (ts.length : Int)) = q := by rw [hq]; unfold wrap64; omega
 unfold insideB
 rw [← hq]
 clear hm hq hl
 by_cases h0 : 0 ≤ co
 ·have d0 : decide (0 ≤ co) = true := decide_eq_true h0
  by_cases h1 : co ≤ id
  ·have d1 : decide (co ≤ id) = true := decide_eq_true h1
   by_cases h2 : 0 ≤ m
   ·have d2 : decide (0 ≤ m) = true := decide_eq_true h2
    rw [d0, d1, d2]
    clear h0 h1 h2
    go_enter Tryd.func39, Tryd.ntmps39
    go_wp2
    go_ret
    exact ⟨by simp [hqw], rfl⟩
   ·have d2 : decide (0 ≤ m) = false := decide_eq_false h2
    rw [d0, d1, d2]
    clear h0 h1 h2
    go_enter Tryd.func39, Tryd.ntmps39
    go_wp2
    go_ret
    exact ⟨rfl, rfl⟩
  ·have d1 : decide (co ≤ id) = false := decide_eq_false h1
   rw [d0, d1]
   clear h0 h1
   go_enter Tryd.func39, Tryd.ntmps39
   go_wp2
   go_ret
   exact ⟨rfl, rfl⟩
 ·have d0 : decide (0 ≤ co) = false := decide_eq_false h0
  rw [d0]
  clear h0
  go_enter Tryd.func39, Tryd.ntmps39
  go_wp2
  go_ret
  exact ⟨rfl, rfl⟩

end Go.Proofs.YtolpckflofjfhaaDoor.P
