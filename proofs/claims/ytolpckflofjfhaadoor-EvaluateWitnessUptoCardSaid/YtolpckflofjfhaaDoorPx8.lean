import Derived.Test.YtolpckflofjfhaaDoorPx0
import Derived.Test.YtolpckflofjfhaaDoorPx1
import Derived.Test.YtolpckflofjfhaaDoorPx4
import Derived.Test.YtolpckflofjfhaaDoorPx5
namespace Go.Proofs.YtolpckflofjfhaaDoor.P
open Go.RowKit Go.Proofs.YtolpckflofjfhaaDoorW.PrintWords Go.Proofs.YtolpckflofjfhaaDoorW.PrintLast Go.Proofs.YtolpckflofjfhaaDoorW.PrintMore
attribute [local go_sem] max2_int min2_int max_two min_two max_three min_three max_four min_four
set_option linter.unusedVariables false
set_option maxHeartbeats 16000000
set_option maxRecDepth 100000
set_option linter.unusedSimpArgs false
def okS (s : ByteArray) : Bool := decide (s.size ≤ 9223372036854775807)
def okI (n : Int) : Bool := decide (-9223372036854775808 ≤ n) && decide (n ≤ 9223372036854775807)
def factOk (x : S62) : Bool := okS x.f0 && (x.f1.all okS && (okI x.f2 && okI x.f3))
def nth (l : List ByteArray) (i : Nat) : ByteArray := l.getD i ⟨#[]⟩
def kvF (x : S62) : Value := kv x.f0 (nth x.f1 0) (nth x.f1 1) (nth x.f1 2) x.f1.length x.f2 x.f3
theorem okS_le {s : ByteArray} (h : okS s = true) : s.size ≤ maxLen := by
 have := of_decide_eq_true h
 simp only [maxLen]
 exact this
theorem okI_wf {n : Int} (h : okI n = true) : (Lit.int .i64 n).wf = true := by
 simp only [okI, Bool.and_eq_true, decide_eq_true_eq] at h
 exact WalkArith.wf_i64 h
theorem nth_ok {l : List ByteArray} (h : l.all okS = true) (i : Nat) : (nth l i).size ≤ maxLen := by
 unfold nth
 rw [List.getD_eq_getElem?_getD]
 cases hx : l[i]? with
 | none => exact Nat.zero_le _
 | some s => exact okS_le (List.all_eq_true.1 h s (List.mem_of_getElem? hx))
theorem kvF_key (x : S62) (h : factOk x = true) (h3 : x.f1.length ≤ 3) : ∃ l, keyOf Tryd.prog 98 (kvF x) = some l := by
 simp only [factOk, Bool.and_eq_true] at h
 obtain ⟨h0, h1, h2, h4⟩ := h
 exact kv_key _ _ _ _ _ _ _ (okS_le h0) (nth_ok h1 0) (nth_ok h1 1) (nth_ok h1 2) (WalkArith.wf_i64 (by omega)) (okI_wf h2) (okI_wf h4)
theorem str_cells {w : World} {A : Option Addr} {l : List ByteArray} (h : Kd.C Kd.string w A l.length l) (hp : 0 < l.length) : ∃ ad, A = some ad ∧ ∀ j v, (l.map Value.string)[j]? = some v → w.cell? (ad.add j) = some v := by
 obtain ⟨ad, rfl, _⟩ := Kd.at_string h 0 (Int.le_refl _) (by omega)
 refine ⟨ad, rfl, fun j v hj => ?_⟩
 obtain ⟨s, hs, rfl⟩ : ∃ s, l[j]? = some s ∧ .string s = v := by simpa using hj
 have hlt : j < l.length := (List.getElem?_eq_some_iff.1 hs).1
 obtain ⟨ad', e, hc⟩ := Kd.at_string h (j : Int) (by omega) (by omega)
 obtain rfl : ad = ad' := by injection e
 rw [Int.toNat_natCast] at hc
 rw [hc]
 unfold rdOf
 rw [Int.toNat_natCast, List.getD_eq_getElem?_getD, hs]
 rfl
theorem kvF_splice (x : S62) (h3 : x.f1.length ≤ 3) (a b c : Value) : splice [.string x.f0, .string ⟨#[]⟩, .string ⟨#[]⟩, .string ⟨#[]⟩, a, b, c] 1 (x.f1.map Value.string) = [.string x.f0, .string (nth x.f1 0), .string (nth x.f1 1), .string (nth x.f1 2), a, b, c] := by
 obtain ⟨f0, f1, f2, f3⟩ := x
 match f1, h3 with
 | [], _ => rfl
 | [a1], _ => rfl
 | [a1, a2], _ => rfl
 | [a1, a2, a3], _ => rfl
def inF (fs : List S62) (v : Value) : Prop := ∃ x ∈ fs, x.f1.length ≤ 3 ∧ v = kvF x
def loadG (k : Nat) (ds : List S73) (ts : List Int) (id : Int) (fs : List S62) (t : S32) : Option Int :=
 (evaluate_proper.f ds ts id).bind fun p => if p = true then (formula_Valid.f k t.f0 t.f1 t.f2 t.f3 t.f4 t.f5 0).bind fun v => if v = true then (evaluate_work.f k ds ts id t.f0 t.f1 t.f2 t.f3 t.f4 t.f5).bind fun n => if n.2 = true then (if fs.all factOk = true ∧ fs.length < 4398046511104 then some (if 1048576 < n.1 then 2 else 0) else none) else some 1 else some 1 else some 1
def Md (w : World) (b : Nat) (ds : List S73) (ts : List Int) (id : Int) (fs : List S62) : Prop :=
 ∃ A0 c0 A1 c1 mb n, w.heap[b]? = some (.cells #[.slice A0 ds.length c0, .slice A1 ts.length c1, .int .i64 id, .map (some mb)] 84 (0, 0)) ∧ ds.length ≤ c0 ∧ ts.length ≤ c1 ∧ Kd.C k73 w A0 ds.length ds ∧ Kd.C (Kd.int .i64) w A1 ts.length ts ∧ SetM Tryd.prog 98 4 w mb n (inF fs)
theorem Md_below {w w' : World} {b : Nat} {ds : List S73} {ts : List Int} {id : Int} {fs : List S62} (h : Md w b ds ts id fs) (hb : Below w.heap.size w w') : Md w' b ds ts id fs := by
 obtain ⟨A0, c0, A1, c1, mb, n, h1, h2, h3, h4, h5, h6⟩ := h
 exact ⟨A0, c0, A1, c1, mb, n, blk_below h1 hb, h2, h3, Kd.C_below h4 hb, Kd.C_below h5 hb, setM_below h6 hb (setM_lt h6)⟩
def LoadPost (w : World) (ds : List S73) (ts : List Int) (id : Int) (fs : List S62) (r : Int) (e : Ending) (w' : World) : Prop :=
 (r = 1 ∧ e = .returned (.tuple #[.pointer none, .int .i64 1]) ∨ r ≠ 1 ∧ ∃ b, e = .returned (.tuple #[.pointer (some ⟨b, 0, none⟩), .int .i64 r]) ∧ w.heap.size ≤ b ∧ Md w' b ds ts id fs) ∧ Below w.heap.size w w'
theorem load_any (k : Nat) (A0 : Option Addr) (c0 : Nat) (ds : List S73) (A1 : Option Addr) (c1 : Nat) (ts : List Int) (id : Int) (A3 : Option Addr) (c3 : Nat) (fs : List S62) (t : S32) (A2 : Option Addr) (c2 : Nat) (A5 : Option Addr) (c5 : Nat) (r : Int) (w : World)
  (hr0 : Kd.C k73 w A0 ds.length ds) (hc0 : ds.length ≤ c0) (hr1 : Kd.C (Kd.int .i64) w A1 ts.length ts) (hc1 : ts.length ≤ c1) (hr3 : Kd.C k62 w A3 fs.length fs) (hr2 : Kd.C k92 w A2 t.f2.length t.f2) (hc2 : t.f2.length ≤ c2) (hr5 : Kd.C k32 w A5 t.f5.length t.f5) (hc5 : t.f5.length ≤ c5) (h : loadG k ds ts id fs t = some r) :
  Calls Tryd.prog 38 #[.agg #[.slice A0 ds.length c0, .slice A1 ts.length c1, .int .i64 id, .slice A3 fs.length c3], .agg #[.int .i64 t.f0, .string t.f1, .slice A2 t.f2.length c2, .int .i64 t.f3, .int .i64 t.f4, .slice A5 t.f5.length c5]] w (LoadPost w ds ts id fs r) := by
 have hu25 := Tryd.underlying25
 have hu28 := Tryd.underlying28
 have hu32 := Tryd.underlying32
 have hu62 := Tryd.underlying62
 have hu84 := Tryd.underlying84
 have hu98 := Tryd.underlying98
 have hmm : ∀ (n : Nat) (w : World), (Instr.makeMap 82 (some (.int .i64 (n : Int)))).run Tryd.prog w = .ok (.map (some w.heap.size)) (w.alloc (.map #[] 0)) := fun n w => by simp [Instr.makeMap, run_underlying Tryd.underlying82, asInt, asIntOf]
 have HR0 := mk_ hr0
 have HR1 := mk_ hr1
 have HR2 := mk_ hr2
 have HR3 := mk_ hr3
 have HR5 := mk_ hr5
 have HL := mk_ (And.intro hc0 (And.intro hc1 (And.intro hc2 hc5)))
 clear hr0 hr1 hr2 hr3 hr5 hc0 hc1 hc2 hc5
 have HB := mk_ (Below.refl w.heap.size w)
 have T1 : True := trivial
 have T2 : True := trivial
 have T3 : True := trivial
 have T4 : True := trivial
 have T5 : True := trivial
 unfold loadG at h
 obtain ⟨p, hp, h⟩ := Option.bind_eq_some_iff.1 h
 have HP := mk_ hp
 clear hp
 cases p with
 | false =>
  rw [if_neg (by decide)] at h
  obtain rfl := Option.some.inj h
  clear h
  go_enter Tryd.func38, Tryd.ntmps38
  go_wp2_with (first
   | (clear T1; (with_reducible refine gate_dst (N := 2) rfl ?_); refine bx_ 2 #[.slice A0 ds.length c0, .slice A1 ts.length c1, .int .i64 id, .slice A3 fs.length c3] 28 ?_; intro g1 hg w1 hbox hb; have HB1 := mk_ (below_step HB.out hb); have G1 := mk_ (show w.heap.size ≤ g1 by rw [hg]; exact HB.out.size); have BW1 := mk_ hbox; clear hb hbox hg HB)
   | (clear T2; (with_reducible refine gate_dst (N := 3) rfl ?_); refine bx_ 3 #[.int .i64 t.f0, .string t.f1, .slice A2 t.f2.length c2, .int .i64 t.f3, .int .i64 t.f4, .slice A5 t.f5.length c5] 32 ?_; intro g2 hg w2 hbox hb; have HB2 := mk_ (below_step HB1.out hb); have G2 := mk_ (show w.heap.size ≤ g2 by rw [hg]; exact HB1.out.size); have BW2 := mk_ (blk_below BW1.out hb); have BF2 := mk_ hbox; clear hb hbox hg HB1 BW1; have x0 : w2.cell? ⟨g1, 0, none⟩ = some (.slice A0 ds.length c0) := (blk_cell BW2.out 0).trans rfl; have x1 : w2.cell? ⟨g1, 1, none⟩ = some (.slice A1 ts.length c1) := (blk_cell BW2.out 1).trans rfl; have x2 : w2.cell? ⟨g1, 2, none⟩ = some (.int .i64 id) := (blk_cell BW2.out 2).trans rfl; have x3 : w2.cell? ⟨g1, 3, none⟩ = some (.slice A3 fs.length c3) := (blk_cell BW2.out 3).trans rfl; have y0 : w2.cell? ⟨g2, 0, none⟩ = some (.int .i64 t.f0) := (blk_cell BF2.out 0).trans rfl; have y1 : w2.cell? ⟨g2, 1, none⟩ = some (.string t.f1) := (blk_cell BF2.out 1).trans rfl; have y2 : w2.cell? ⟨g2, 2, none⟩ = some (.slice A2 t.f2.length c2) := (blk_cell BF2.out 2).trans rfl; have y3 : w2.cell? ⟨g2, 3, none⟩ = some (.int .i64 t.f3) := (blk_cell BF2.out 3).trans rfl; have y4 : w2.cell? ⟨g2, 4, none⟩ = some (.int .i64 t.f4) := (blk_cell BF2.out 4).trans rfl; have y5 : w2.cell? ⟨g2, 5, none⟩ = some (.slice A5 t.f5.length c5) := (blk_cell BF2.out 5).trans rfl)
   | (clear T3; go_at_call 44; refine (evaluate_proper.calls A0 c0 ds A1 c1 ts id false _ (Kd.C_below HR0.out HB2.out) HL.out.1 (Kd.C_below HR1.out HB2.out) HL.out.2.1 HP.out).mono ?_; rintro e w3 ⟨rfl, hb⟩; have HB3 := mk_ (below_step HB2.out hb); have BW3 := mk_ (blk_below BW2.out hb); have BF3 := mk_ (blk_below BF2.out hb); clear hb HB2 BW2 BF2; have x'0 : w3.cell? ⟨g1, 0, none⟩ = some (.slice A0 ds.length c0) := (blk_cell BW3.out 0).trans rfl; have x'1 : w3.cell? ⟨g1, 1, none⟩ = some (.slice A1 ts.length c1) := (blk_cell BW3.out 1).trans rfl; have x'2 : w3.cell? ⟨g1, 2, none⟩ = some (.int .i64 id) := (blk_cell BW3.out 2).trans rfl; have x'3 : w3.cell? ⟨g1, 3, none⟩ = some (.slice A3 fs.length c3) := (blk_cell BW3.out 3).trans rfl; have y'0 : w3.cell? ⟨g2, 0, none⟩ = some (.int .i64 t.f0) := (blk_cell BF3.out 0).trans rfl; have y'1 : w3.cell? ⟨g2, 1, none⟩ = some (.string t.f1) := (blk_cell BF3.out 1).trans rfl; have y'2 : w3.cell? ⟨g2, 2, none⟩ = some (.slice A2 t.f2.length c2) := (blk_cell BF3.out 2).trans rfl; have y'3 : w3.cell? ⟨g2, 3, none⟩ = some (.int .i64 t.f3) := (blk_cell BF3.out 3).trans rfl; have y'4 : w3.cell? ⟨g2, 4, none⟩ = some (.int .i64 t.f4) := (blk_cell BF3.out 4).trans rfl; have y'5 : w3.cell? ⟨g2, 5, none⟩ = some (.slice A5 t.f5.length c5) := (blk_cell BF3.out 5).trans rfl))
  go_ret2
  exact ⟨.inl ⟨rfl, rfl⟩, HB3.out⟩
 | true =>
  rw [if_pos rfl] at h
  obtain ⟨v, hv, h⟩ := Option.bind_eq_some_iff.1 h
  have HV := mk_ hv
  clear hv
  cases v with
  | false =>
   rw [if_neg (by decide)] at h
   obtain rfl := Option.some.inj h
   clear h
   go_enter Tryd.func38, Tryd.ntmps38
   go_wp2_with (first
    | (clear T1; (with_reducible refine gate_dst (N := 2) rfl ?_); refine bx_ 2 #[.slice A0 ds.length c0, .slice A1 ts.length c1, .int .i64 id, .slice A3 fs.length c3] 28 ?_; intro g1 hg w1 hbox hb; have HB1 := mk_ (below_step HB.out hb); have G1 := mk_ (show w.heap.size ≤ g1 by rw [hg]; exact HB.out.size); have BW1 := mk_ hbox; clear hb hbox hg HB)
    | (clear T2; (with_reducible refine gate_dst (N := 3) rfl ?_); refine bx_ 3 #[.int .i64 t.f0, .string t.f1, .slice A2 t.f2.length c2, .int .i64 t.f3, .int .i64 t.f4, .slice A5 t.f5.length c5] 32 ?_; intro g2 hg w2 hbox hb; have HB2 := mk_ (below_step HB1.out hb); have G2 := mk_ (show w.heap.size ≤ g2 by rw [hg]; exact HB1.out.size); have BW2 := mk_ (blk_below BW1.out hb); have BF2 := mk_ hbox; clear hb hbox hg HB1 BW1; have x0 : w2.cell? ⟨g1, 0, none⟩ = some (.slice A0 ds.length c0) := (blk_cell BW2.out 0).trans rfl; have x1 : w2.cell? ⟨g1, 1, none⟩ = some (.slice A1 ts.length c1) := (blk_cell BW2.out 1).trans rfl; have x2 : w2.cell? ⟨g1, 2, none⟩ = some (.int .i64 id) := (blk_cell BW2.out 2).trans rfl; have x3 : w2.cell? ⟨g1, 3, none⟩ = some (.slice A3 fs.length c3) := (blk_cell BW2.out 3).trans rfl; have y0 : w2.cell? ⟨g2, 0, none⟩ = some (.int .i64 t.f0) := (blk_cell BF2.out 0).trans rfl; have y1 : w2.cell? ⟨g2, 1, none⟩ = some (.string t.f1) := (blk_cell BF2.out 1).trans rfl; have y2 : w2.cell? ⟨g2, 2, none⟩ = some (.slice A2 t.f2.length c2) := (blk_cell BF2.out 2).trans rfl; have y3 : w2.cell? ⟨g2, 3, none⟩ = some (.int .i64 t.f3) := (blk_cell BF2.out 3).trans rfl; have y4 : w2.cell? ⟨g2, 4, none⟩ = some (.int .i64 t.f4) := (blk_cell BF2.out 4).trans rfl; have y5 : w2.cell? ⟨g2, 5, none⟩ = some (.slice A5 t.f5.length c5) := (blk_cell BF2.out 5).trans rfl)
    | (clear T3; go_at_call 44; refine (evaluate_proper.calls A0 c0 ds A1 c1 ts id true _ (Kd.C_below HR0.out HB2.out) HL.out.1 (Kd.C_below HR1.out HB2.out) HL.out.2.1 HP.out).mono ?_; rintro e w3 ⟨rfl, hb⟩; have HB3 := mk_ (below_step HB2.out hb); have BW3 := mk_ (blk_below BW2.out hb); have BF3 := mk_ (blk_below BF2.out hb); clear hb HB2 BW2 BF2; have x'0 : w3.cell? ⟨g1, 0, none⟩ = some (.slice A0 ds.length c0) := (blk_cell BW3.out 0).trans rfl; have x'1 : w3.cell? ⟨g1, 1, none⟩ = some (.slice A1 ts.length c1) := (blk_cell BW3.out 1).trans rfl; have x'2 : w3.cell? ⟨g1, 2, none⟩ = some (.int .i64 id) := (blk_cell BW3.out 2).trans rfl; have x'3 : w3.cell? ⟨g1, 3, none⟩ = some (.slice A3 fs.length c3) := (blk_cell BW3.out 3).trans rfl; have y'0 : w3.cell? ⟨g2, 0, none⟩ = some (.int .i64 t.f0) := (blk_cell BF3.out 0).trans rfl; have y'1 : w3.cell? ⟨g2, 1, none⟩ = some (.string t.f1) := (blk_cell BF3.out 1).trans rfl; have y'2 : w3.cell? ⟨g2, 2, none⟩ = some (.slice A2 t.f2.length c2) := (blk_cell BF3.out 2).trans rfl; have y'3 : w3.cell? ⟨g2, 3, none⟩ = some (.int .i64 t.f3) := (blk_cell BF3.out 3).trans rfl; have y'4 : w3.cell? ⟨g2, 4, none⟩ = some (.int .i64 t.f4) := (blk_cell BF3.out 4).trans rfl; have y'5 : w3.cell? ⟨g2, 5, none⟩ = some (.slice A5 t.f5.length c5) := (blk_cell BF3.out 5).trans rfl)
    | (clear T4; go_at_call 52; refine (formula_Valid.calls k t.f0 t.f1 A2 c2 t.f2 t.f3 t.f4 A5 c5 t.f5 0 false _ (Kd.C_below HR2.out HB3.out) HL.out.2.2.1 (Kd.C_below HR5.out HB3.out) HL.out.2.2.2 HV.out).mono ?_; rintro e w4 ⟨rfl, hb⟩; have HB4 := mk_ (below_step HB3.out hb); have BW4 := mk_ (blk_below BW3.out hb); have BF4 := mk_ (blk_below BF3.out hb); clear hb HB3 BW3 BF3; have x''0 : w4.cell? ⟨g1, 0, none⟩ = some (.slice A0 ds.length c0) := (blk_cell BW4.out 0).trans rfl; have x''1 : w4.cell? ⟨g1, 1, none⟩ = some (.slice A1 ts.length c1) := (blk_cell BW4.out 1).trans rfl; have x''2 : w4.cell? ⟨g1, 2, none⟩ = some (.int .i64 id) := (blk_cell BW4.out 2).trans rfl; have x''3 : w4.cell? ⟨g1, 3, none⟩ = some (.slice A3 fs.length c3) := (blk_cell BW4.out 3).trans rfl; have y''0 : w4.cell? ⟨g2, 0, none⟩ = some (.int .i64 t.f0) := (blk_cell BF4.out 0).trans rfl; have y''1 : w4.cell? ⟨g2, 1, none⟩ = some (.string t.f1) := (blk_cell BF4.out 1).trans rfl; have y''2 : w4.cell? ⟨g2, 2, none⟩ = some (.slice A2 t.f2.length c2) := (blk_cell BF4.out 2).trans rfl; have y''3 : w4.cell? ⟨g2, 3, none⟩ = some (.int .i64 t.f3) := (blk_cell BF4.out 3).trans rfl; have y''4 : w4.cell? ⟨g2, 4, none⟩ = some (.int .i64 t.f4) := (blk_cell BF4.out 4).trans rfl; have y''5 : w4.cell? ⟨g2, 5, none⟩ = some (.slice A5 t.f5.length c5) := (blk_cell BF4.out 5).trans rfl))
   go_ret2
   exact ⟨.inl ⟨rfl, rfl⟩, HB4.out⟩
  | true =>
   rw [if_pos rfl] at h
   obtain ⟨⟨nn, ok⟩, hn, h⟩ := Option.bind_eq_some_iff.1 h
   have HN := mk_ hn
   clear hn
   cases ok with
   | false =>
    rw [if_neg (by simp)] at h
    obtain rfl := Option.some.inj h
    clear h
    go_enter Tryd.func38, Tryd.ntmps38
    go_wp2_with (first
     | (clear T1; (with_reducible refine gate_dst (N := 2) rfl ?_); refine bx_ 2 #[.slice A0 ds.length c0, .slice A1 ts.length c1, .int .i64 id, .slice A3 fs.length c3] 28 ?_; intro g1 hg w1 hbox hb; have HB1 := mk_ (below_step HB.out hb); have G1 := mk_ (show w.heap.size ≤ g1 by rw [hg]; exact HB.out.size); have BW1 := mk_ hbox; clear hb hbox hg HB)
     | (clear T2; (with_reducible refine gate_dst (N := 3) rfl ?_); refine bx_ 3 #[.int .i64 t.f0, .string t.f1, .slice A2 t.f2.length c2, .int .i64 t.f3, .int .i64 t.f4, .slice A5 t.f5.length c5] 32 ?_; intro g2 hg w2 hbox hb; have HB2 := mk_ (below_step HB1.out hb); have G2 := mk_ (show w.heap.size ≤ g2 by rw [hg]; exact HB1.out.size); have BW2 := mk_ (blk_below BW1.out hb); have BF2 := mk_ hbox; clear hb hbox hg HB1 BW1; have x0 : w2.cell? ⟨g1, 0, none⟩ = some (.slice A0 ds.length c0) := (blk_cell BW2.out 0).trans rfl; have x1 : w2.cell? ⟨g1, 1, none⟩ = some (.slice A1 ts.length c1) := (blk_cell BW2.out 1).trans rfl; have x2 : w2.cell? ⟨g1, 2, none⟩ = some (.int .i64 id) := (blk_cell BW2.out 2).trans rfl; have x3 : w2.cell? ⟨g1, 3, none⟩ = some (.slice A3 fs.length c3) := (blk_cell BW2.out 3).trans rfl; have y0 : w2.cell? ⟨g2, 0, none⟩ = some (.int .i64 t.f0) := (blk_cell BF2.out 0).trans rfl; have y1 : w2.cell? ⟨g2, 1, none⟩ = some (.string t.f1) := (blk_cell BF2.out 1).trans rfl; have y2 : w2.cell? ⟨g2, 2, none⟩ = some (.slice A2 t.f2.length c2) := (blk_cell BF2.out 2).trans rfl; have y3 : w2.cell? ⟨g2, 3, none⟩ = some (.int .i64 t.f3) := (blk_cell BF2.out 3).trans rfl; have y4 : w2.cell? ⟨g2, 4, none⟩ = some (.int .i64 t.f4) := (blk_cell BF2.out 4).trans rfl; have y5 : w2.cell? ⟨g2, 5, none⟩ = some (.slice A5 t.f5.length c5) := (blk_cell BF2.out 5).trans rfl)
     | (clear T3; go_at_call 44; refine (evaluate_proper.calls A0 c0 ds A1 c1 ts id true _ (Kd.C_below HR0.out HB2.out) HL.out.1 (Kd.C_below HR1.out HB2.out) HL.out.2.1 HP.out).mono ?_; rintro e w3 ⟨rfl, hb⟩; have HB3 := mk_ (below_step HB2.out hb); have BW3 := mk_ (blk_below BW2.out hb); have BF3 := mk_ (blk_below BF2.out hb); clear hb HB2 BW2 BF2; have x'0 : w3.cell? ⟨g1, 0, none⟩ = some (.slice A0 ds.length c0) := (blk_cell BW3.out 0).trans rfl; have x'1 : w3.cell? ⟨g1, 1, none⟩ = some (.slice A1 ts.length c1) := (blk_cell BW3.out 1).trans rfl; have x'2 : w3.cell? ⟨g1, 2, none⟩ = some (.int .i64 id) := (blk_cell BW3.out 2).trans rfl; have x'3 : w3.cell? ⟨g1, 3, none⟩ = some (.slice A3 fs.length c3) := (blk_cell BW3.out 3).trans rfl; have y'0 : w3.cell? ⟨g2, 0, none⟩ = some (.int .i64 t.f0) := (blk_cell BF3.out 0).trans rfl; have y'1 : w3.cell? ⟨g2, 1, none⟩ = some (.string t.f1) := (blk_cell BF3.out 1).trans rfl; have y'2 : w3.cell? ⟨g2, 2, none⟩ = some (.slice A2 t.f2.length c2) := (blk_cell BF3.out 2).trans rfl; have y'3 : w3.cell? ⟨g2, 3, none⟩ = some (.int .i64 t.f3) := (blk_cell BF3.out 3).trans rfl; have y'4 : w3.cell? ⟨g2, 4, none⟩ = some (.int .i64 t.f4) := (blk_cell BF3.out 4).trans rfl; have y'5 : w3.cell? ⟨g2, 5, none⟩ = some (.slice A5 t.f5.length c5) := (blk_cell BF3.out 5).trans rfl)
     | (clear T4; go_at_call 52; refine (formula_Valid.calls k t.f0 t.f1 A2 c2 t.f2 t.f3 t.f4 A5 c5 t.f5 0 true _ (Kd.C_below HR2.out HB3.out) HL.out.2.2.1 (Kd.C_below HR5.out HB3.out) HL.out.2.2.2 HV.out).mono ?_; rintro e w4 ⟨rfl, hb⟩; have HB4 := mk_ (below_step HB3.out hb); have BW4 := mk_ (blk_below BW3.out hb); have BF4 := mk_ (blk_below BF3.out hb); clear hb HB3 BW3 BF3; have x''0 : w4.cell? ⟨g1, 0, none⟩ = some (.slice A0 ds.length c0) := (blk_cell BW4.out 0).trans rfl; have x''1 : w4.cell? ⟨g1, 1, none⟩ = some (.slice A1 ts.length c1) := (blk_cell BW4.out 1).trans rfl; have x''2 : w4.cell? ⟨g1, 2, none⟩ = some (.int .i64 id) := (blk_cell BW4.out 2).trans rfl; have x''3 : w4.cell? ⟨g1, 3, none⟩ = some (.slice A3 fs.length c3) := (blk_cell BW4.out 3).trans rfl; have y''0 : w4.cell? ⟨g2, 0, none⟩ = some (.int .i64 t.f0) := (blk_cell BF4.out 0).trans rfl; have y''1 : w4.cell? ⟨g2, 1, none⟩ = some (.string t.f1) := (blk_cell BF4.out 1).trans rfl; have y''2 : w4.cell? ⟨g2, 2, none⟩ = some (.slice A2 t.f2.length c2) := (blk_cell BF4.out 2).trans rfl; have y''3 : w4.cell? ⟨g2, 3, none⟩ = some (.int .i64 t.f3) := (blk_cell BF4.out 3).trans rfl; have y''4 : w4.cell? ⟨g2, 4, none⟩ = some (.int .i64 t.f4) := (blk_cell BF4.out 4).trans rfl; have y''5 : w4.cell? ⟨g2, 5, none⟩ = some (.slice A5 t.f5.length c5) := (blk_cell BF4.out 5).trans rfl)
     | (clear T5; go_at_call 53; refine (evaluate_work.calls k A0 c0 ds A1 c1 ts id t.f0 t.f1 A2 c2 t.f2 t.f3 t.f4 A5 c5 t.f5 nn false _ (Kd.C_below HR0.out HB4.out) HL.out.1 (Kd.C_below HR1.out HB4.out) HL.out.2.1 (Kd.C_below HR2.out HB4.out) HL.out.2.2.1 (Kd.C_below HR5.out HB4.out) HL.out.2.2.2 HN.out).mono ?_; rintro e w5 ⟨rfl, hb⟩; have HB5 := mk_ (below_step HB4.out hb); have BW5 := mk_ (blk_below BW4.out hb); have BF5 := mk_ (blk_below BF4.out hb); clear hb HB4 BW4 BF4; have x'''0 : w5.cell? ⟨g1, 0, none⟩ = some (.slice A0 ds.length c0) := (blk_cell BW5.out 0).trans rfl; have x'''1 : w5.cell? ⟨g1, 1, none⟩ = some (.slice A1 ts.length c1) := (blk_cell BW5.out 1).trans rfl; have x'''2 : w5.cell? ⟨g1, 2, none⟩ = some (.int .i64 id) := (blk_cell BW5.out 2).trans rfl; have x'''3 : w5.cell? ⟨g1, 3, none⟩ = some (.slice A3 fs.length c3) := (blk_cell BW5.out 3).trans rfl; have y'''0 : w5.cell? ⟨g2, 0, none⟩ = some (.int .i64 t.f0) := (blk_cell BF5.out 0).trans rfl; have y'''1 : w5.cell? ⟨g2, 1, none⟩ = some (.string t.f1) := (blk_cell BF5.out 1).trans rfl; have y'''2 : w5.cell? ⟨g2, 2, none⟩ = some (.slice A2 t.f2.length c2) := (blk_cell BF5.out 2).trans rfl; have y'''3 : w5.cell? ⟨g2, 3, none⟩ = some (.int .i64 t.f3) := (blk_cell BF5.out 3).trans rfl; have y'''4 : w5.cell? ⟨g2, 4, none⟩ = some (.int .i64 t.f4) := (blk_cell BF5.out 4).trans rfl; have y'''5 : w5.cell? ⟨g2, 5, none⟩ = some (.slice A5 t.f5.length c5) := (blk_cell BF5.out 5).trans rfl))
    go_ret2
    exact ⟨.inl ⟨rfl, rfl⟩, HB5.out⟩
   | true =>
    rw [if_pos rfl] at h
    by_cases hf : fs.all factOk = true ∧ fs.length < 4398046511104
    case neg => rw [if_neg hf] at h; cases h
    rw [if_pos hf] at h
    have HF := mk_ hf
    clear hf
    obtain ⟨rr, hr0⟩ : ∃ rr : Int, rr = if 1048576 < nn then 2 else 0 := ⟨_, rfl⟩
    rw [← hr0] at h
    obtain rfl := Option.some.inj h
    have hrr := hr0
    clear hr0
    have HRR := mk_ hrr
    clear h hrr
    go_enter Tryd.func38, Tryd.ntmps38
    go_wp2_with (first
     | (clear T1; (with_reducible refine gate_dst (N := 2) rfl ?_); refine bx_ 2 #[.slice A0 ds.length c0, .slice A1 ts.length c1, .int .i64 id, .slice A3 fs.length c3] 28 ?_; intro g1 hg w1 hbox hb; have HB1 := mk_ (below_step HB.out hb); have G1 := mk_ (show w.heap.size ≤ g1 by rw [hg]; exact HB.out.size); have BW1 := mk_ hbox; clear hb hbox hg HB)
     | (clear T2; (with_reducible refine gate_dst (N := 3) rfl ?_); refine bx_ 3 #[.int .i64 t.f0, .string t.f1, .slice A2 t.f2.length c2, .int .i64 t.f3, .int .i64 t.f4, .slice A5 t.f5.length c5] 32 ?_; intro g2 hg w2 hbox hb; have HB2 := mk_ (below_step HB1.out hb); have G2 := mk_ (show w.heap.size ≤ g2 by rw [hg]; exact HB1.out.size); have BW2 := mk_ (blk_below BW1.out hb); have BF2 := mk_ hbox; clear hb hbox hg HB1 BW1; have x0 : w2.cell? ⟨g1, 0, none⟩ = some (.slice A0 ds.length c0) := (blk_cell BW2.out 0).trans rfl; have x1 : w2.cell? ⟨g1, 1, none⟩ = some (.slice A1 ts.length c1) := (blk_cell BW2.out 1).trans rfl; have x2 : w2.cell? ⟨g1, 2, none⟩ = some (.int .i64 id) := (blk_cell BW2.out 2).trans rfl; have x3 : w2.cell? ⟨g1, 3, none⟩ = some (.slice A3 fs.length c3) := (blk_cell BW2.out 3).trans rfl; have y0 : w2.cell? ⟨g2, 0, none⟩ = some (.int .i64 t.f0) := (blk_cell BF2.out 0).trans rfl; have y1 : w2.cell? ⟨g2, 1, none⟩ = some (.string t.f1) := (blk_cell BF2.out 1).trans rfl; have y2 : w2.cell? ⟨g2, 2, none⟩ = some (.slice A2 t.f2.length c2) := (blk_cell BF2.out 2).trans rfl; have y3 : w2.cell? ⟨g2, 3, none⟩ = some (.int .i64 t.f3) := (blk_cell BF2.out 3).trans rfl; have y4 : w2.cell? ⟨g2, 4, none⟩ = some (.int .i64 t.f4) := (blk_cell BF2.out 4).trans rfl; have y5 : w2.cell? ⟨g2, 5, none⟩ = some (.slice A5 t.f5.length c5) := (blk_cell BF2.out 5).trans rfl)
     | (clear T3; go_at_call 44; refine (evaluate_proper.calls A0 c0 ds A1 c1 ts id true _ (Kd.C_below HR0.out HB2.out) HL.out.1 (Kd.C_below HR1.out HB2.out) HL.out.2.1 HP.out).mono ?_; rintro e w3 ⟨rfl, hb⟩; have HB3 := mk_ (below_step HB2.out hb); have BW3 := mk_ (blk_below BW2.out hb); have BF3 := mk_ (blk_below BF2.out hb); clear hb HB2 BW2 BF2; have x'0 : w3.cell? ⟨g1, 0, none⟩ = some (.slice A0 ds.length c0) := (blk_cell BW3.out 0).trans rfl; have x'1 : w3.cell? ⟨g1, 1, none⟩ = some (.slice A1 ts.length c1) := (blk_cell BW3.out 1).trans rfl; have x'2 : w3.cell? ⟨g1, 2, none⟩ = some (.int .i64 id) := (blk_cell BW3.out 2).trans rfl; have x'3 : w3.cell? ⟨g1, 3, none⟩ = some (.slice A3 fs.length c3) := (blk_cell BW3.out 3).trans rfl; have y'0 : w3.cell? ⟨g2, 0, none⟩ = some (.int .i64 t.f0) := (blk_cell BF3.out 0).trans rfl; have y'1 : w3.cell? ⟨g2, 1, none⟩ = some (.string t.f1) := (blk_cell BF3.out 1).trans rfl; have y'2 : w3.cell? ⟨g2, 2, none⟩ = some (.slice A2 t.f2.length c2) := (blk_cell BF3.out 2).trans rfl; have y'3 : w3.cell? ⟨g2, 3, none⟩ = some (.int .i64 t.f3) := (blk_cell BF3.out 3).trans rfl; have y'4 : w3.cell? ⟨g2, 4, none⟩ = some (.int .i64 t.f4) := (blk_cell BF3.out 4).trans rfl; have y'5 : w3.cell? ⟨g2, 5, none⟩ = some (.slice A5 t.f5.length c5) := (blk_cell BF3.out 5).trans rfl)
     | (clear T4; go_at_call 52; refine (formula_Valid.calls k t.f0 t.f1 A2 c2 t.f2 t.f3 t.f4 A5 c5 t.f5 0 true _ (Kd.C_below HR2.out HB3.out) HL.out.2.2.1 (Kd.C_below HR5.out HB3.out) HL.out.2.2.2 HV.out).mono ?_; rintro e w4 ⟨rfl, hb⟩; have HB4 := mk_ (below_step HB3.out hb); have BW4 := mk_ (blk_below BW3.out hb); have BF4 := mk_ (blk_below BF3.out hb); clear hb HB3 BW3 BF3; have x''0 : w4.cell? ⟨g1, 0, none⟩ = some (.slice A0 ds.length c0) := (blk_cell BW4.out 0).trans rfl; have x''1 : w4.cell? ⟨g1, 1, none⟩ = some (.slice A1 ts.length c1) := (blk_cell BW4.out 1).trans rfl; have x''2 : w4.cell? ⟨g1, 2, none⟩ = some (.int .i64 id) := (blk_cell BW4.out 2).trans rfl; have x''3 : w4.cell? ⟨g1, 3, none⟩ = some (.slice A3 fs.length c3) := (blk_cell BW4.out 3).trans rfl; have y''0 : w4.cell? ⟨g2, 0, none⟩ = some (.int .i64 t.f0) := (blk_cell BF4.out 0).trans rfl; have y''1 : w4.cell? ⟨g2, 1, none⟩ = some (.string t.f1) := (blk_cell BF4.out 1).trans rfl; have y''2 : w4.cell? ⟨g2, 2, none⟩ = some (.slice A2 t.f2.length c2) := (blk_cell BF4.out 2).trans rfl; have y''3 : w4.cell? ⟨g2, 3, none⟩ = some (.int .i64 t.f3) := (blk_cell BF4.out 3).trans rfl; have y''4 : w4.cell? ⟨g2, 4, none⟩ = some (.int .i64 t.f4) := (blk_cell BF4.out 4).trans rfl; have y''5 : w4.cell? ⟨g2, 5, none⟩ = some (.slice A5 t.f5.length c5) := (blk_cell BF4.out 5).trans rfl)
     | (clear T5; go_at_call 53; refine (evaluate_work.calls k A0 c0 ds A1 c1 ts id t.f0 t.f1 A2 c2 t.f2 t.f3 t.f4 A5 c5 t.f5 nn true _ (Kd.C_below HR0.out HB4.out) HL.out.1 (Kd.C_below HR1.out HB4.out) HL.out.2.1 (Kd.C_below HR2.out HB4.out) HL.out.2.2.1 (Kd.C_below HR5.out HB4.out) HL.out.2.2.2 HN.out).mono ?_; rintro e w5 ⟨rfl, hb⟩; have HB5 := mk_ (below_step HB4.out hb); have BW5 := mk_ (blk_below BW4.out hb); have BF5 := mk_ (blk_below BF4.out hb); clear hb HB4 BW4 BF4; have x'''0 : w5.cell? ⟨g1, 0, none⟩ = some (.slice A0 ds.length c0) := (blk_cell BW5.out 0).trans rfl; have x'''1 : w5.cell? ⟨g1, 1, none⟩ = some (.slice A1 ts.length c1) := (blk_cell BW5.out 1).trans rfl; have x'''2 : w5.cell? ⟨g1, 2, none⟩ = some (.int .i64 id) := (blk_cell BW5.out 2).trans rfl; have x'''3 : w5.cell? ⟨g1, 3, none⟩ = some (.slice A3 fs.length c3) := (blk_cell BW5.out 3).trans rfl; have y'''0 : w5.cell? ⟨g2, 0, none⟩ = some (.int .i64 t.f0) := (blk_cell BF5.out 0).trans rfl; have y'''1 : w5.cell? ⟨g2, 1, none⟩ = some (.string t.f1) := (blk_cell BF5.out 1).trans rfl; have y'''2 : w5.cell? ⟨g2, 2, none⟩ = some (.slice A2 t.f2.length c2) := (blk_cell BF5.out 2).trans rfl; have y'''3 : w5.cell? ⟨g2, 3, none⟩ = some (.int .i64 t.f3) := (blk_cell BF5.out 3).trans rfl; have y'''4 : w5.cell? ⟨g2, 4, none⟩ = some (.int .i64 t.f4) := (blk_cell BF5.out 4).trans rfl; have y'''5 : w5.cell? ⟨g2, 5, none⟩ = some (.slice A5 t.f5.length c5) := (blk_cell BF5.out 5).trans rfl))
    refine start_ (n := 9) (S := fun w' => w'.cell? ⟨g1, 0, none⟩ = some (.slice A0 ds.length c0) ∧ w'.cell? ⟨g1, 1, none⟩ = some (.slice A1 ts.length c1) ∧ w'.cell? ⟨g1, 2, none⟩ = some (.int .i64 id) ∧ w'.cell? ⟨g1, 3, none⟩ = some (.slice A3 fs.length c3)) (ds := [7]) (Array.replicate 9 false) (by kernel_rfl) rfl rfl ⟨(blk_cell (blk_drew BW5.out) 0).trans rfl, (blk_cell (blk_drew BW5.out) 1).trans rfl, (blk_cell (blk_drew BW5.out) 2).trans rfl, (blk_cell (blk_drew BW5.out) 3).trans rfl⟩ (fun hHeld => ?_)
    refine pu_ 0 (some 30) ?_
    refine tk_ 1 (some 31) hHeld ?_
    refine pu_ 2 (some 32) ?_
    refine tk_ 3 (some 33) hHeld ?_
    refine pu_ 4 (some 34) ?_
    refine on_ 5 (some 35) (fun K hK => ?_)
    refine value_ (w1 := ?_) (v := ?_) (by rfl) rfl ?_ ?_
    rotate_left 2
    ·go_simp
     constructor
     ·rfl
     ·rfl
    refine hK.out _ _ ⟨(blk_cell (blk_alloc (blk_drew BW5.out) _) 0).trans rfl, (blk_cell (blk_alloc (blk_drew BW5.out) _) 1).trans rfl, (blk_cell (blk_alloc (blk_drew BW5.out) _) 2).trans rfl, (blk_cell (blk_alloc (blk_drew BW5.out) _) 3).trans rfl⟩ (fun hHeld => ?_)
    clear hK K
    refine no_ (N := some 35) ?_
    refine pu_ 6 (some 36) ?_
    refine la_ 7 (some 37) (fun K hK => ?_)
    refine value_ (w1 := ?_) (v := ?_) (by rfl) rfl ?_ ?_
    rotate_left 2
    ·go_simp
     constructor
     ·rfl
     ·rfl
    refine hK.out _ _ ?_
    clear hK K
    refine no_ (N := some 37) ?_
    refine pu_ 8 (some 8) ?_
    refine done_ (by kernel_rfl) ?_
    generalize hW6 : ((w5.alloc (.map #[] 0)).alloc (.cells #[.slice A0 ds.length c0, .slice A1 ts.length c1, .int .i64 id, .map (some w5.heap.size)] 84)).drew = w6
    have HB6 : Aside0 (Below w.heap.size w w6) := ⟨by rw [← hW6]; exact below_drew (below_alloc (below_alloc HB5.out _) _)⟩
    have BW6 : Aside0 (w6.heap[g1]? = some (.cells #[.slice A0 ds.length c0, .slice A1 ts.length c1, .int .i64 id, .slice A3 fs.length c3] 28 (0, 0))) := ⟨by rw [← hW6]; exact blk_alloc (blk_alloc (blk_drew BW5.out) _) _⟩
    have BM6 : Aside0 (w6.heap[w5.heap.size + 1]? = some (.cells #[.slice A0 ds.length c0, .slice A1 ts.length c1, .int .i64 id, .map (some w5.heap.size)] 84 (0, 0))) := ⟨by
     rw [← hW6]
     have h1 := heap_alloc_new (w5.alloc (.map #[] 0)) (.cells #[.slice A0 ds.length c0, .slice A1 ts.length c1, .int .i64 id, .map (some w5.heap.size)] 84)
     rw [World.size_alloc] at h1
     exact h1⟩
    have SM6 : Aside0 (SetM Tryd.prog 98 4 w6 w5.heap.size 0 (inF (fs.take 0))) := ⟨by
     rw [← hW6]
     refine setM_congr (setM_below (setM_made (P := Tryd.prog) (K := 98) (E := 4) w5) (below_drew (below_alloc (Below.refl _ _) _)) (by rw [World.size_alloc]; exact Nat.lt_succ_self _)) (fun v => ⟨fun h => h.elim, ?_⟩)
     rintro ⟨x, hx, _⟩
     simp at hx⟩
    have GZ6 : Aside0 (g1 < w5.heap.size ∧ w5.heap.size + 1 < w6.heap.size ∧ w.heap.size ≤ w5.heap.size) := ⟨blk_lt BW5.out, blk_lt BM6.out, HB5.out.size⟩
    clear hW6 HB5 BW5 BF5
    clear x'''0 x'''1 x'''2 x'''3 y'''0 y'''1 y'''2 y'''3 y'''4 y'''5
    clear x''0 x''1 x''2 x''3 y''0 y''1 y''2 y''3 y''4 y''5
    clear x'0 x'1 x'2 x'3 y'0 y'1 y'2 y'3 y'4 y'5
    clear x0 x1 x2 x3 y0 y1 y2 y3 y4 y5
    obtain ⟨bm, hbm⟩ : ∃ bm, w5.heap.size + 1 = bm := ⟨_, rfl⟩
    rw [hbm] at BM6 GZ6 ⊢
    generalize w5.heap.size = mb at BM6 SM6 GZ6 hbm ⊢
    have HBM := mk_ hbm
    clear hbm
    have x0 : w6.cell? ⟨g1, 0, none⟩ = some (.slice A0 ds.length c0) := (blk_cell BW6.out 0).trans rfl
    have x1 : w6.cell? ⟨g1, 1, none⟩ = some (.slice A1 ts.length c1) := (blk_cell BW6.out 1).trans rfl
    have x2 : w6.cell? ⟨g1, 2, none⟩ = some (.int .i64 id) := (blk_cell BW6.out 2).trans rfl
    have x3 : w6.cell? ⟨g1, 3, none⟩ = some (.slice A3 fs.length c3) := (blk_cell BW6.out 3).trans rfl
    go_wp2
    clear x0 x1 x2 x3
    go_loopw [41] (fun v wr => ∃ (i : Int), v = .int .i64 i ∧ Aside0 (0 ≤ i) ∧ Aside0 (i ≤ (fs.length : Int)) ∧ Aside0 (wr.heap[g1]? = some (.cells #[.slice A0 ds.length c0, .slice A1 ts.length c1, .int .i64 id, .slice A3 fs.length c3] 28 (0, 0))) ∧ Aside0 (wr.heap[bm]? = some (.cells #[.slice A0 ds.length c0, .slice A1 ts.length c1, .int .i64 id, .map (some mb)] 84 (0, 0))) ∧ Aside0 (SetM Tryd.prog 98 4 wr mb i.toNat (inF (fs.take i.toNat))) ∧ Aside0 (Below w.heap.size w wr)) (fun v _ => fs.length - (intOf v).toNat)
    case atStart => exact ⟨0, rfl, ⟨Int.le_refl _⟩, ⟨by omega⟩, BW6, BM6, SM6, HB6⟩
    case round =>
     clear BW6 BM6 SM6 HB6
     obtain ⟨i, rfl, H0, HK, BW, BM, SM, HB⟩ := hrel
     by_cases hlt : i < (fs.length : Int)
     ·have h0 := H0.out
      have hk : i.toNat < fs.length := by omega
      obtain ⟨ad, Ae, ce, rfl, hx0, hx1, hx2, hx3, hl1, hg1⟩ := at_T62 (Kd.C_below HR3.out HB.out) i h0 hlt
      have p0 : (0 ≤ i) = True := eq_true h0
      have p1 : (i < (fs.length : Int)) = True := eq_true hlt
      have hxe : rd_T62 fs i = fs[i.toNat] := by unfold rd_T62; rw [List.getD_eq_getElem?_getD, List.getElem?_eq_getElem hk]; rfl
      have hok : factOk (rd_T62 fs i) = true := by rw [hxe]; exact List.all_eq_true.1 HF.out.1 _ (List.getElem_mem hk)
      have htk : ∀ v, inF (fs.take (i.toNat + 1)) v ↔ inF (fs.take i.toNat) v ∨ ((rd_T62 fs i).f1.length ≤ 3 ∧ v = kvF (rd_T62 fs i)) := by
       intro v
       unfold inF
       rw [List.take_succ_eq_append_getElem hk, ← hxe]
       simp only [List.mem_append, List.mem_singleton]
       constructor
       ·rintro ⟨y, hy | rfl, h1, rfl⟩
        ·exact .inl ⟨y, hy, h1, rfl⟩
        ·exact .inr ⟨h1, rfl⟩
       ·rintro (⟨y, hy, h1, rfl⟩ | ⟨h1, rfl⟩)
        ·exact ⟨y, .inl hy, h1, rfl⟩
        ·exact ⟨_, .inr rfl, h1, rfl⟩
      obtain ⟨x, hx⟩ : ∃ x, x = rd_T62 fs i := ⟨_, rfl⟩
      rw [← hx] at hx0 hx1 hx2 hx3 hl1 hg1 hok htk
      clear hx hxe
      have e1 : wrap64 (i + 1) = i + 1 := by have := HF.out.2; unfold wrap64; omega
      have ei : (i + 1).toNat = i.toNat + 1 := by omega
      by_cases h3 : (3 : Int) < (x.f1.length : Int)
      ·have hc3 : decide ((3 : Int) < (x.f1.length : Int)) = true := decide_eq_true h3
       have SM' := mk_ (setM_mono (setM_congr (S' := inF (fs.take (i.toNat + 1))) (setM_below SM.out (below_alloc (Below.refl wr.heap.size wr) (.cells #[.string x.f0, .slice Ae x.f1.length ce, .int .i64 x.f2, .int .i64 x.f3] 62)) (setM_lt SM.out)) (fun v => by rw [htk v]; exact ⟨.inl, fun h => h.elim (fun h => h) (fun h => absurd h.1 (by omega))⟩)) (Nat.le_succ _))
       have HB' := mk_ (below_alloc HB.out (.cells #[.string x.f0, .slice Ae x.f1.length ce, .int .i64 x.f2, .int .i64 x.f3] 62))
       have BW' := mk_ (blk_alloc BW.out (.cells #[.string x.f0, .slice Ae x.f1.length ce, .int .i64 x.f2, .int .i64 x.f3] 62))
       have BM' := mk_ (blk_alloc BM.out (.cells #[.string x.f0, .slice Ae x.f1.length ce, .int .i64 x.f2, .int .i64 x.f3] 62))
       clear hok htk hg1 hl1 h3 SM HB BW BM
       go_wp2
       go_roundw
       case rel => exact ⟨i + 1, by rw [e1], ⟨by omega⟩, ⟨by omega⟩, BW', BM', by rw [ei]; exact SM', HB'⟩
       case measure => rw [e1]; simp only [intOf]; omega
      ·have hc3 : decide ((3 : Int) < (x.f1.length : Int)) = false := decide_eq_false h3
       have hlen : x.f1.length ≤ 3 := by omega
       obtain ⟨kl, hkl⟩ := kvF_key x hok hlen
       have HKL := mk_ hkl
       have HTK := mk_ htk
       have HLX := mk_ hlen
       have HGX := mk_ (Kd.C_below hg1 (Below.refl wr.heap.size wr))
       have hW : wr.heap.size + 1 = wr.heap.size + 1 := rfl
       clear hok htk hg1 hl1 h3 hkl hlen hW
       go_upto_region 12 with (fail)
       generalize hW : (wr.alloc (.cells #[.string x.f0, .slice Ae x.f1.length ce, .int .i64 x.f2, .int .i64 x.f3] 62)).alloc (.cells #[.string x.f0, .string ⟨#[]⟩, .string ⟨#[]⟩, .string ⟨#[]⟩, .int .i64 x.f1.length, .int .i64 x.f2, .int .i64 x.f3] 98) = w7
       have HB7 : Aside0 (Below wr.heap.size wr w7) := ⟨by rw [← hW]; exact below_alloc (below_alloc (Below.refl _ _) _) _⟩
       have BE7 : Aside0 (w7.heap[wr.heap.size]? = some (.cells #[.string x.f0, .slice Ae x.f1.length ce, .int .i64 x.f2, .int .i64 x.f3] 62 (0, 0))) := ⟨by rw [← hW]; exact blk_alloc (heap_alloc_new _ _) _⟩
       have BK7 : Aside0 (w7.heap[wr.heap.size + 1]? = some (.cells #[.string x.f0, .string ⟨#[]⟩, .string ⟨#[]⟩, .string ⟨#[]⟩, .int .i64 x.f1.length, .int .i64 x.f2, .int .i64 x.f3] 98 (0, 0))) := ⟨by
        rw [← hW]
        have h1 := heap_alloc_new (wr.alloc (.cells #[.string x.f0, .slice Ae x.f1.length ce, .int .i64 x.f2, .int .i64 x.f3] 62)) (.cells #[.string x.f0, .string ⟨#[]⟩, .string ⟨#[]⟩, .string ⟨#[]⟩, .int .i64 x.f1.length, .int .i64 x.f2, .int .i64 x.f3] 98)
        rw [World.size_alloc] at h1
        exact h1⟩
       clear hW hx0 hx1 hx2 hx3
       refine start_ (n := 5) (S := fun w' => w'.cell? ⟨wr.heap.size, 1, none⟩ = some (.slice Ae x.f1.length ce)) (ds := [4]) (Array.replicate 5 false) (by kernel_rfl) rfl rfl ((blk_cell (blk_drew BE7.out) 1).trans rfl) (fun hHeld => ?_)
       refine pu_ 0 (some 59) ?_
       refine pu_ 1 (some 60) ?_
       refine pu_ 2 (some 61) ?_
       refine tk_ 3 (some 62) hHeld ?_
       refine la_ 4 (some 63) (fun K hK => ?_)
       refine step_copy_splice rfl (.tmp 60) (.tmp 62) 60 60 rfl 9 Tryd.underlying60 (by kernel_rfl) _ Ae 3 3 x.f1.length ce (by rfl) (by rfl) (wr.heap.size + 1) 1 [.string x.f0, .string ⟨#[]⟩, .string ⟨#[]⟩, .string ⟨#[]⟩, .int .i64 x.f1.length, .int .i64 x.f2, .int .i64 x.f3] 98 (blk_drew BK7.out) (x.f1.map Value.string) (by rw [List.length_map]; exact (Nat.min_eq_left HLX.out).symm) (fun hp => ⟨rfl, str_cells (Kd.C_below HGX.out (below_drew HB7.out)) (by simpa using hp)⟩) (by have := HLX.out; simp; omega) (by intro v hv; obtain ⟨s, _, rfl⟩ := List.mem_map.1 hv; rfl) wr.heap.size wr (below_drew HB7.out) (by omega) ?_
       intro w8 hk8 hb8
       refine hK.out _ _ ?_
       clear hK K
       refine no_ (N := some 63) ?_
       refine done_ (by kernel_rfl) ?_
       have HK8 := mk_ (show w8.heap[wr.heap.size + 1]? = some (.cells #[.string x.f0, .string (nth x.f1 0), .string (nth x.f1 1), .string (nth x.f1 2), .int .i64 x.f1.length, .int .i64 x.f2, .int .i64 x.f3] 98 (0, 0)) from by have h := hk8.out; rw [kvF_splice x HLX.out] at h; exact h)
       have HB8 := mk_ (HB.out.trans (hb8.mono HB.out.size))
       have BM8 := mk_ (blk_below BM.out hb8)
       have BW8 := mk_ (blk_below BW.out hb8)
       have SM8 := mk_ (setM_below SM.out hb8 (setM_lt SM.out))
       have GG : Aside0 (wr.heap.size ≤ w8.heap.size) := ⟨hb8.size⟩
       clear hk8 hb8 BM BW SM HB HB7 BE7 BK7
       go_wp2
       refine start_ (n := 6) (S := fun w' => w'.cell? ⟨bm, 0, none⟩ = some (.slice A0 ds.length c0) ∧ w'.cell? ⟨bm, 1, none⟩ = some (.slice A1 ts.length c1) ∧ w'.cell? ⟨bm, 2, none⟩ = some (.int .i64 id) ∧ w'.cell? ⟨bm, 3, none⟩ = some (.map (some mb)) ∧ w'.cell? ⟨wr.heap.size + 1, 0, none⟩ = some (.string x.f0) ∧ w'.cell? ⟨wr.heap.size + 1, 1, none⟩ = some (.string (nth x.f1 0)) ∧ w'.cell? ⟨wr.heap.size + 1, 2, none⟩ = some (.string (nth x.f1 1)) ∧ w'.cell? ⟨wr.heap.size + 1, 3, none⟩ = some (.string (nth x.f1 2)) ∧ w'.cell? ⟨wr.heap.size + 1, 4, none⟩ = some (.int .i64 x.f1.length) ∧ w'.cell? ⟨wr.heap.size + 1, 5, none⟩ = some (.int .i64 x.f2) ∧ w'.cell? ⟨wr.heap.size + 1, 6, none⟩ = some (.int .i64 x.f3)) (ds := [5]) (Array.replicate 6 false) (by kernel_rfl) rfl rfl ⟨(blk_cell (blk_drew BM8.out) 0).trans rfl, (blk_cell (blk_drew BM8.out) 1).trans rfl, (blk_cell (blk_drew BM8.out) 2).trans rfl, (blk_cell (blk_drew BM8.out) 3).trans rfl, (blk_cell (blk_drew HK8.out) 0).trans rfl, (blk_cell (blk_drew HK8.out) 1).trans rfl, (blk_cell (blk_drew HK8.out) 2).trans rfl, (blk_cell (blk_drew HK8.out) 3).trans rfl, (blk_cell (blk_drew HK8.out) 4).trans rfl, (blk_cell (blk_drew HK8.out) 5).trans rfl, (blk_cell (blk_drew HK8.out) 6).trans rfl⟩ (fun hHeld => ?_)
       refine pu_ 0 (some 64) ?_
       refine pu_ 1 (some 65) ?_
       refine pu_ 2 (some 66) ?_
       refine tk_ 3 (some 67) hHeld ?_
       refine tk_ 4 (some 68) hHeld ?_
       refine la_ 5 (none) (fun K hK => ?_)
       refine step_put rfl rfl (.tmp 67) (.tmp 68) (.const (.bool true)) 82 rfl law98 Tryd.underlying82 Tryd.underlying4 mb i.toNat (inF (fs.take i.toNat)) (by rfl) (setM_below SM8.out (below_drew (Below.refl _ _)) (setM_lt SM8.out)) (by have := HF.out.2; simp only [maxLen]; omega) (kvF x) kl (by rfl) (by rfl) HKL.out ?_
       intro w9 hm9 hg9
       have SM9 := mk_ (setM_congr (S' := inF (fs.take (i.toNat + 1))) hm9 (fun v => by rw [HTK.out v]; exact ⟨fun h => h.elim .inl (fun h => .inr ⟨HLX.out, h⟩), fun h => h.elim .inl (fun h => .inr h.2)⟩))
       have HB9 := mk_ (grown_below (below_drew HB8.out) hg9 GZ6.out.2.2 HB8.out.size)
       have BM9 : Aside0 (w9.heap[bm]? = some (.cells #[.slice A0 ds.length c0, .slice A1 ts.length c1, .int .i64 id, .map (some mb)] 84 (0, 0))) := ⟨(hg9.block _ (blk_lt BM8.out) (by have := HBM.out; simp; omega)).trans BM8.out⟩
       have BW9 := mk_ ((hg9.block _ (blk_lt BW8.out) (by have := GZ6.out.1; simp; omega)).trans BW8.out)
       clear hm9 hg9
       refine hK.out _ _ ?_
       clear hK K
       refine done_ (by kernel_rfl) ?_
       go_wp2
       go_roundw
       case rel => exact ⟨i + 1, by rw [e1], ⟨by omega⟩, ⟨by omega⟩, BW9, BM9, by rw [ei]; exact SM9, HB9⟩
       case measure => rw [e1]; simp only [intOf]; omega
     ·obtain rfl : i = (fs.length : Int) := by have := HK.out; omega
      have SMF : Aside0 (SetM Tryd.prog 98 4 wr mb fs.length (inF fs)) := ⟨by have h := SM.out; rw [Int.toNat_natCast, List.take_length] at h; exact h⟩
      have MDF : Aside0 (Md wr bm ds ts id fs) := ⟨⟨A0, c0, A1, c1, mb, _, BM.out, HL.out.1, HL.out.2.1, Kd.C_below HR0.out HB.out, Kd.C_below HR1.out HB.out, SMF.out⟩⟩
      by_cases hn : 1048576 < nn
      ·have hn1 : decide (1048576 < nn) = true := decide_eq_true hn
       obtain rfl : rr = 2 := by have h := HRR.out; rw [if_pos hn] at h; exact h
       clear hn HRR
       go_wp2
       go_ret2
       exact ⟨.inr ⟨by decide, bm, rfl, by have := GZ6.out.2.2; have := HBM.out; omega, MDF.out⟩, HB.out⟩
      ·have hn1 : decide (1048576 < nn) = false := decide_eq_false hn
       obtain rfl : rr = 0 := by have h := HRR.out; rw [if_neg hn] at h; exact h
       clear hn HRR
       go_wp2
       go_ret2
       exact ⟨.inr ⟨by decide, bm, rfl, by have := GZ6.out.2.2; have := HBM.out; omega, MDF.out⟩, HB.out⟩
def insideB (ts : List Int) (id co m : Int) : Bool := decide (0 ≤ co) && (decide (co ≤ id) && (decide (0 ≤ m) && decide (m ≤ 2 * (ts.length : Int))))
theorem C_nil (w : World) : Kd.C Kd.string w none ([] : List ByteArray).length [] := ⟨rfl, by decide, fun h => absurd h (by decide)⟩
theorem inside_any (b : Nat) (ds : List S73) (ts : List Int) (id : Int) (fs : List S62) (co m : Int) (w : World) (hmd : Md w b ds ts id fs) (hl : ts.length < 4398046511104) :
  Calls Tryd.prog 39 #[.pointer (some ⟨b, 0, none⟩), .int .i64 co, .int .i64 m] w fun e w' => e = .returned (.bool (insideB ts id co m)) ∧ w' = w := by
 have hu84 := Tryd.underlying84
 have hu25 := Tryd.underlying25
 obtain ⟨A0, c0, A1, c1, mb, nm, hm, _, _, _, _, _⟩ := hmd
 have m1 : w.cell? ⟨b, 1, none⟩ = some (.slice A1 ts.length c1) := (blk_cell hm 1).trans rfl
 have m2 : w.cell? ⟨b, 2, none⟩ = some (.int .i64 id) := (blk_cell hm 2).trans rfl
 obtain ⟨q, hq⟩ : ∃ q : Int, q = 2 * (ts.length : Int) := ⟨_, rfl⟩
 have hqw : wrap64 (2 * (ts.length : Int)) = q := by rw [hq]; unfold wrap64; omega
 unfold insideB
 rw [← hq]
 clear hm hq hl
 by_cases h0 : 0 ≤ co
 ·have d0 : decide (0 ≤ co) = true := decide_eq_true h0
  by_cases h1 : co ≤ id
  ·have d1 : decide (co ≤ id) = true := decide_eq_true h1
   by_cases h2 : 0 ≤ m
   ·have d2 : decide (0 ≤ m) = true := decide_eq_true h2
    rw [d0, d1, d2]
    clear h0 h1 h2
    go_enter Tryd.func39, Tryd.ntmps39
    go_wp2
    go_ret
    exact ⟨by simp [hqw], rfl⟩
   ·have d2 : decide (0 ≤ m) = false := decide_eq_false h2
    rw [d0, d1, d2]
    clear h0 h1 h2
    go_enter Tryd.func39, Tryd.ntmps39
    go_wp2
    go_ret
    exact ⟨rfl, rfl⟩
  ·have d1 : decide (co ≤ id) = false := decide_eq_false h1
   rw [d0, d1]
   clear h0 h1
   go_enter Tryd.func39, Tryd.ntmps39
   go_wp2
   go_ret
   exact ⟨rfl, rfl⟩
 ·have d0 : decide (0 ≤ co) = false := decide_eq_false h0
  rw [d0]
  clear h0
  go_enter Tryd.func39, Tryd.ntmps39
  go_wp2
  go_ret
  exact ⟨rfl, rfl⟩
def someL (all : Bool) (p : Int → Option Bool) : Nat → Int → Option Bool
 | 0, _ => some all
 | n + 1, i => (p i).bind fun b => if b = all then someL all p n (i + 1) else some (!all)
theorem some_any (g : Nat) (lb : Array Value) (all : Bool) (p : Int → Option Bool) (lo hi : Int) (r : Bool) (w : World) (eg : ∀ (args : Array Value) (w : World), (callFunc g args).run Tryd.prog w = .ok (.enter g args) w)
  (hp : ∀ (W : World) (i : Int) (b : Bool), Below w.heap.size w W → lo ≤ i → i < hi → p i = some b → Calls Tryd.prog g (#[.int .i64 i] ++ lb) W fun e w' => e = .returned (.bool b) ∧ Below W.heap.size W w')
  (hlo : -9223372036854775808 ≤ lo) (hhi : hi ≤ 9223372036854775807) (h : someL all p (hi - lo).toNat lo = some r) :
  Calls Tryd.prog 42 #[.bool all, .int .i64 lo, .int .i64 hi, .func (.func g) #[] lb] w fun e w' => e = .returned (.bool r) ∧ Below w.heap.size w w' := by
 have HP := mk_ hp
 have HH := mk_ (And.intro hlo hhi)
 have HR := mk_ h
 clear hp hlo hhi h
 go_enter Tryd.func42, Tryd.ntmps42
 go_wp2
 go_loopw [9] (fun v wr => ∃ i : Int, v = .int .i64 i ∧ Aside0 (lo ≤ i) ∧ Aside0 (someL all p (hi - i).toNat i = some r) ∧ Aside0 (Below w.heap.size w wr)) (fun v _ => (hi - intOf v).toNat)
 case atStart => exact ⟨lo, rfl, ⟨Int.le_refl _⟩, HR, ⟨Below.refl _ _⟩⟩
 case round =>
  clear HR
  obtain ⟨i, rfl, HI, HR, HB⟩ := hrel
  by_cases hlt : i < hi
  ·have c1 : decide (i < hi) = true := decide_eq_true hlt
   have h := HR.out
   rw [show (hi - i).toNat = (hi - (i + 1)).toNat + 1 by omega, someL] at h
   obtain ⟨b, hb, h⟩ := Option.bind_eq_some_iff.1 h
   have HC := mk_ (HP.out wr i b HB.out HI.out hlt hb)
   have e1 : wrap64 (i + 1) = i + 1 := by have := HH.out; have := HI.out; unfold wrap64; omega
   have HM : Aside0 ((hi - (i + 1)).toNat < (hi - i).toNat) := ⟨by omega⟩
   clear HR hb hlt
   cases b <;> cases all
   ·rw [if_pos rfl] at h
    have HR := mk_ h
    clear h
    go_wp2_with (go_at_fn g; refine HC.out.mono ?_; rintro e w1 ⟨rfl, hb1⟩; have HB1 := mk_ (HB.out.trans (hb1.mono HB.out.size)); clear hb1)
    go_roundw
    case rel => exact ⟨i + 1, by rw [e1], ⟨by have := HI.out; omega⟩, HR, HB1⟩
    case measure => rw [e1]; exact HM.out
   ·rw [if_neg (by decide)] at h
    obtain rfl := Option.some.inj h
    clear h
    go_wp2_with (go_at_fn g; refine HC.out.mono ?_; rintro e w1 ⟨rfl, hb1⟩; have HB1 := mk_ (HB.out.trans (hb1.mono HB.out.size)); clear hb1)
    go_ret
    exact ⟨rfl, HB1.out⟩
   ·rw [if_neg (by decide)] at h
    obtain rfl := Option.some.inj h
    clear h
    go_wp2_with (go_at_fn g; refine HC.out.mono ?_; rintro e w1 ⟨rfl, hb1⟩; have HB1 := mk_ (HB.out.trans (hb1.mono HB.out.size)); clear hb1)
    go_ret
    exact ⟨rfl, HB1.out⟩
   ·rw [if_pos rfl] at h
    have HR := mk_ h
    clear h
    go_wp2_with (go_at_fn g; refine HC.out.mono ?_; rintro e w1 ⟨rfl, hb1⟩; have HB1 := mk_ (HB.out.trans (hb1.mono HB.out.size)); clear hb1)
    go_roundw
    case rel => exact ⟨i + 1, by rw [e1], ⟨by have := HI.out; omega⟩, HR, HB1⟩
    case measure => rw [e1]; exact HM.out
  ·have c1 : decide (i < hi) = false := decide_eq_false hlt
   have h := HR.out
   rw [show (hi - i).toNat = 0 by omega, someL] at h
   obtain rfl := Option.some.inj h
   clear h hlt HR
   go_wp2
   go_ret
   exact ⟨rfl, HB.out⟩
def strconv_Itoa.f (a0 : Int) : Option ByteArray := if -9223372036854775808 ≤ a0 ∧ a0 ≤ 9223372036854775807 then some (itB a0) else none
theorem strconv_Itoa.calls (a0 : Int) (r : ByteArray) (w : World) (h : strconv_Itoa.f a0 = some r) (htb : Tb w) :
  Calls Tryd.prog 66 #[.int .i64 a0] w fun e w' => e = .returned (.string r) ∧ Below w.heap.size w w' := by
 unfold strconv_Itoa.f at h
 by_cases hb : -9223372036854775808 ≤ a0 ∧ a0 ≤ 9223372036854775807
 ·rw [if_pos hb] at h
  obtain rfl := Option.some.inj h
  exact it_calls a0 hb.1 hb.2 w htb
 ·rw [if_neg hb] at h; cases h
def evaluate_name.f (a0_0 : Int) (a0_1 : Int) (a0_2 : ByteArray) (l1 : List ByteArray) : Option (ByteArray) := if a0_0 = 1 then (if 0 ≤ (wrap64 ((wrap64 ((l1.length : Int) - 1)) - a0_1)) then (if (wrap64 ((wrap64 ((l1.length : Int) - 1)) - a0_1)) < (l1.length : Int) then (some (rdOf ByteArray.empty l1 (wrap64 ((wrap64 ((l1.length : Int) - 1)) - a0_1)))) else (none)) else (none)) else (if a0_0 = 2 then (some a0_2) else (if a0_0 = 3 then ((strconv_Itoa.f a0_1).bind fun t166 => (if 1 + t166.size ≤ 9223372036854775807 then (some ((⟨#[64]⟩ : ByteArray) ++ t166)) else (none))) else ((strconv_Itoa.f a0_1).bind fun t167 => (some t167))))
theorem evaluate_name.calls (a0_0 : Int) (a0_1 : Int) (a0_2 : ByteArray) (A1 : Option Addr) (c1 : Nat) (l1 : List ByteArray) (r : ByteArray) (w : World) (hr1 : Kd.C Kd.string w A1 l1.length l1) (hc1 : l1.length ≤ c1) (h : evaluate_name.f a0_0 a0_1 a0_2 l1 = some r) (htb : Tb w) :
  Calls Tryd.prog 55 #[.agg #[.int .i64 a0_0, .int .i64 a0_1, .string a0_2], .slice A1 l1.length c1] w fun e w' => e = .returned (.string r) ∧ Below w.heap.size w w' := by
 have HTB := mk_ htb
 clear htb
 have hu92 := Tryd.underlying92
 have HR1 := mk_ hr1; have HC1 := mk_ hc1; clear hr1 hc1
 have HB := mk_ (Below.refl w.heap.size w)
 have H : (if a0_0 = 1 then (if 0 ≤ (wrap64 ((wrap64 ((l1.length : Int) - 1)) - a0_1)) then (if (wrap64 ((wrap64 ((l1.length : Int) - 1)) - a0_1)) < (l1.length : Int) then (some (rdOf ByteArray.empty l1 (wrap64 ((wrap64 ((l1.length : Int) - 1)) - a0_1)))) else (none)) else (none)) else (if a0_0 = 2 then (some a0_2) else (if a0_0 = 3 then ((strconv_Itoa.f a0_1).bind fun t166 => (if 1 + t166.size ≤ 9223372036854775807 then (some ((⟨#[64]⟩ : ByteArray) ++ t166)) else (none))) else ((strconv_Itoa.f a0_1).bind fun t167 => (some t167))))) = some r := h
 clear h
 by_cases c3 : a0_0 = 1
 ·rw [if_pos c3] at H
  obtain ⟨c3b0, c3b1⟩ := eb_ c3
  clear c3
  obtain ⟨ji4, hji4⟩ : ∃ j_ : Int, (wrap64 ((wrap64 ((l1.length : Int) - 1)) - a0_1)) = j_ := ⟨_, rfl⟩
  replace H : (if 0 ≤ (ji4) then (if (ji4) < (l1.length : Int) then (some (rdOf ByteArray.empty l1 (ji4))) else (none)) else (none)) = some r := by first | (rw [hji4] at H; exact H) | (simp only [hji4] at H ⊢; exact H)
  have hji4w : (IntKind.i64.wrap ((wrap64 ((l1.length : Int) - 1)) - a0_1)) = ji4 := (i64_w _).trans hji4
  by_cases c5 : 0 ≤ (ji4)
  ·rw [if_pos c5] at H
   have c5b0 : decide (0 ≤ (ji4)) = true := decide_eq_true c5
   clear c5
   by_cases c6 : (ji4) < (l1.length : Int)
   ·rw [if_pos c6] at H
    have c6b0 : decide ((ji4) < (l1.length : Int)) = true := decide_eq_true c6
    clear c6
    obtain rfl := Option.some.inj H
    go_enter Tryd.func55, Tryd.ntmps55
    go_wp2_with (first | ((with_reducible refine gate_dst (N := 2) rfl ?_); refine bx_ 2 #[.int .i64 a0_0, .int .i64 a0_1, .string a0_2] 92 ?_; intro gb164 hg w7 hbox hb; have BK164 := mk_ (hbox); have GW164 := mk_ (gs_ hg (be_ HB)); have GE164 := mk_ (gs_ hg (be_ HB)); replace HB := mk_ (below_step (be_ HB) hb); clear hb hbox hg; obtain ⟨_, _, _, _, _, _⟩ := hb3_ BK164; have p165 : 0 ≤ ((ji4) : Int) := of_decide_eq_true (by first | (with_reducible assumption) | assumption); have q165 : (ji4) < (l1.length : Int) := of_decide_eq_true (by first | (with_reducible assumption) | assumption); obtain ⟨ad165, e165, hx165_0⟩ := Kd.at_string HR1.out (ji4) p165 q165; cases e165; replace hx165_0 := (HB.out.cell (World.block_lt_of_cell? w _ hx165_0)).trans hx165_0; replace p165 := eq_true p165; replace q165 := eq_true q165))
    go_ret
    exact ⟨by first | rfl | (simp [errW_none, errW_some] <;> rfl) | (simp only [← hji4]; first | rfl | (simp [errW_none, errW_some] <;> rfl)) | (simp [*, errW_none, errW_some] <;> rfl), be1_ HB GE164⟩
   ·rw [if_neg c6] at H
    exact absurd H (by simp)
  ·rw [if_neg c5] at H
   exact absurd H (by simp)
 ·rw [if_neg c3] at H
  obtain ⟨c3b0, c3b1⟩ := en_ c3
  by_cases c9 : a0_0 = 2
  ·rw [if_pos c9] at H
   obtain ⟨c9b0, c9b1⟩ := eb_ c9
   clear c9
   obtain rfl := Option.some.inj H
   go_enter Tryd.func55, Tryd.ntmps55
   go_wp2_with (first | ((with_reducible refine gate_dst (N := 2) rfl ?_); refine bx_ 2 #[.int .i64 a0_0, .int .i64 a0_1, .string a0_2] 92 ?_; intro gb164 hg w10 hbox hb; have BK164 := mk_ (hbox); have GW164 := mk_ (gs_ hg (be_ HB)); have GE164 := mk_ (gs_ hg (be_ HB)); replace HB := mk_ (below_step (be_ HB) hb); clear hb hbox hg; obtain ⟨_, _, _, _, _, _⟩ := hb3_ BK164))
   go_ret
   exact ⟨er_, be1_ HB GE164⟩
  ·rw [if_neg c9] at H
   obtain ⟨c9b0, c9b1⟩ := en_ c9
   by_cases c12 : a0_0 = 3
   ·rw [if_pos c12] at H
    obtain ⟨c12b0, c12b1⟩ := eb_ c12
    clear c12
    replace H := Option.bind_eq_some_iff.mp H
    obtain ⟨t166, A130, H⟩ := H
    replace H : (if 1 + t166.size ≤ 9223372036854775807 then (some ((⟨#[64]⟩ : ByteArray) ++ t166)) else (none)) = some r := H
    have A13 := mk_ A130
    clear A130
    by_cases c14 : 1 + t166.size ≤ 9223372036854775807
    ·rw [if_pos c14] at H
     have c14b0 := eq_true c14
     have c14b1 : decide (1 + t166.size ≤ 9223372036854775807) = true := decide_eq_true c14
     try have c14b2 : (9223372036854775807 < 1 + t166.size) = False := eq_false (Nat.not_lt.2 c14)
     obtain rfl := Option.some.inj H
     go_enter Tryd.func55, Tryd.ntmps55
     go_wp2_with (first | ((with_reducible refine gate_dst (N := 2) rfl ?_); refine bx_ 2 #[.int .i64 a0_0, .int .i64 a0_1, .string a0_2] 92 ?_; intro gb164 hg w15 hbox hb; have BK164 := mk_ (hbox); have GW164 := mk_ (gs_ hg (be_ HB)); have GE164 := mk_ (gs_ hg (be_ HB)); replace HB := mk_ (below_step (be_ HB) hb); clear hb hbox hg; obtain ⟨_, _, _, _, _, _⟩ := hb3_ BK164) | ((with_reducible refine gate_callee (f := 66) rfl ?_); refine gl_ (some 26) Tryd.func66 #[.int .i64 a0_1] ?_; (with_reducible refine (strconv_Itoa.calls a0_1 t166 _ A13.out (tb_on HTB.out (be1_ HB GE164))).mono ?_); rintro e w17 ⟨rfl, hb⟩; refine ⟨_, rfl, ?_⟩; replace BK164 := mk_ (bb_ BK164 hb); replace HB := mk_ (below_step (be1_ HB GE164) hb)))
     go_ret
     exact ⟨er_, be1_ HB GE164⟩
    ·rw [if_neg c14] at H
     exact absurd H (by simp)
   ·rw [if_neg c12] at H
    obtain ⟨c12b0, c12b1⟩ := en_ c12
    replace H := Option.bind_eq_some_iff.mp H
    obtain ⟨t167, A180, H⟩ := H
    replace H : (some t167) = some r := H
    have A18 := mk_ A180
    clear A180
    obtain rfl := Option.some.inj H
    go_enter Tryd.func55, Tryd.ntmps55
    go_wp2_with (first | ((with_reducible refine gate_dst (N := 2) rfl ?_); refine bx_ 2 #[.int .i64 a0_0, .int .i64 a0_1, .string a0_2] 92 ?_; intro gb164 hg w19 hbox hb; have BK164 := mk_ (hbox); have GW164 := mk_ (gs_ hg (be_ HB)); have GE164 := mk_ (gs_ hg (be_ HB)); replace HB := mk_ (below_step (be_ HB) hb); clear hb hbox hg; obtain ⟨_, _, _, _, _, _⟩ := hb3_ BK164) | ((with_reducible refine gate_callee (f := 66) rfl ?_); refine gl_ (some 30) Tryd.func66 #[.int .i64 a0_1] ?_; (with_reducible refine (strconv_Itoa.calls a0_1 t167 _ A18.out (tb_on HTB.out (be1_ HB GE164))).mono ?_); rintro e w21 ⟨rfl, hb⟩; refine ⟨_, rfl, ?_⟩; replace BK164 := mk_ (bb_ BK164 hb); replace HB := mk_ (below_step (be1_ HB GE164) hb)))
    go_ret
    exact ⟨er_, be1_ HB GE164⟩
end Go.Proofs.YtolpckflofjfhaaDoor.P
