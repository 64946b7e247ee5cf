import Derived.Test.YtolpckflofjfhaaDoorPx0
namespace Go.Proofs.YtolpckflofjfhaaDoor.P
open Go.RowKit Go.Proofs.YtolpckflofjfhaaDoorW.PrintWords Go.Proofs.YtolpckflofjfhaaDoorW.PrintLast Go.Proofs.YtolpckflofjfhaaDoorW.PrintMore
attribute [local go_sem] max2_int min2_int max_two min_two max_three min_three max_four min_four
set_option linter.unusedVariables false
set_option maxHeartbeats 8000000
set_option maxRecDepth 100000
set_option linter.unusedSimpArgs false
def tmB : Int → List Int → Bool
 | _, [] => true
 | p, t :: l => !(decide (t < 0)) && (!(decide (1439999999 < t)) && (!(decide (t ≤ p)) && tmB t l))
def dmB : List ByteArray → List S73 → Bool
 | _, [] => true
 | seen, d :: l => !(seen.any fun u => u.data == d.f0.data) && dmB (d.f0 :: seen) l
def evaluate_proper.f (l0_0 : List S73) (l0_1 : List Int) (a0_2 : Int) : Option Bool :=
 if (l0_0.all fun d => decide (d.f0.size ≤ 9223372036854775807)) = true ∧ l0_0.length < 4398046511104 ∧ l0_1.length < 4398046511104 then some (tmB (-1) l0_1 && (dmB [] l0_0 && (a0_2 == 1 || a0_2 == 2))) else none
theorem tmB_at {ts : List Int} {i : Int} (h0 : 0 ≤ i) (hk : i < (ts.length : Int)) (h : tmB (if i = 0 then -1 else rd ts (i - 1)) (ts.drop i.toNat) = tmB (-1) ts) :
  tmB (-1) ts = (!(decide (rd ts i < 0)) && (!(decide (1439999999 < rd ts i)) && (!(decide (rd ts i ≤ if i = 0 then -1 else rd ts (i - 1))) && tmB (if i + 1 = 0 then -1 else rd ts (i + 1 - 1)) (ts.drop (i + 1).toNat)))) := by
 have hk' : i.toNat < ts.length := by omega
 rw [← h, List.drop_eq_getElem_cons hk', tmB, if_neg (show ¬ i + 1 = 0 by omega), show i + 1 - 1 = i by omega, show (i + 1).toNat = i.toNat + 1 by omega]
 have e : rd ts i = ts[i.toNat] := by unfold rd; rw [List.getD_eq_getElem?_getD, List.getElem?_eq_getElem hk']; rfl
 rw [e]
theorem dmB_at {ds : List S73} {k : Nat} (hk : k < ds.length) (h : dmB (((ds.take k).map S73.f0).reverse) (ds.drop k) = dmB [] ds) :
  dmB [] ds = (!((((ds.take k).map S73.f0).reverse).any fun u => u.data == (rd_T73 ds k).f0.data) && dmB (((ds.take (k + 1)).map S73.f0).reverse) (ds.drop (k + 1))) := by
 have e : rd_T73 ds k = ds[k] := by unfold rd_T73; rw [Int.toNat_natCast, List.getD_eq_getElem?_getD, List.getElem?_eq_getElem hk]; rfl
 rw [← h, List.drop_eq_getElem_cons hk, dmB, e, List.take_succ_eq_append_getElem hk, List.map_append, List.reverse_append]
 rfl
def sawS (ds : List S73) (k : Nat) (v : Value) : Prop := ∃ d ∈ ds.take k, v = .string d.f0
theorem sawS_succ {ds : List S73} {k : Nat} (hk : k < ds.length) (v : Value) : (sawS ds k v ∨ v = .string (rd_T73 ds k).f0) ↔ sawS ds (k + 1) v := by
 have e : rd_T73 ds k = ds[k] := by unfold rd_T73; rw [Int.toNat_natCast, List.getD_eq_getElem?_getD, List.getElem?_eq_getElem hk]; rfl
 unfold sawS
 rw [List.take_succ_eq_append_getElem hk, e]
 simp only [List.mem_append, List.mem_singleton]
 constructor
 ·rintro (⟨d, hd, rfl⟩ | rfl)
  ·exact ⟨d, .inl hd, rfl⟩
  ·exact ⟨_, .inr rfl, rfl⟩
 ·rintro ⟨d, hd | rfl, rfl⟩
  ·exact .inl ⟨d, hd, rfl⟩
  ·exact .inr rfl
theorem sawS_any {ds : List S73} {k : Nat} (s : ByteArray) : ((((ds.take k).map S73.f0).reverse).any fun u => u.data == s.data) = true ↔ sawS ds k (.string s) := by
 unfold sawS
 simp only [List.any_eq_true, List.mem_reverse, List.mem_map, beq_iff_eq, Value.string.injEq]
 constructor
 ·rintro ⟨u, ⟨d, hd, rfl⟩, hu⟩
  exact ⟨d, hd, (ByteArray.ext hu).symm⟩
 ·rintro ⟨d, hd, rfl⟩
  exact ⟨_, ⟨d, hd, rfl⟩, rfl⟩
theorem evaluate_proper.calls (A0_0 : Option Addr) (c0_0 : Nat) (l0_0 : List (S73)) (A0_1 : Option Addr) (c0_1 : Nat) (l0_1 : List Int) (a0_2 : Int) (r : Bool) (w : World) (hr0_0 : Kd.C k73 w A0_0 l0_0.length l0_0) (hc0_0 : l0_0.length ≤ c0_0) (hr0_1 : Kd.C (Kd.int .i64) w A0_1 l0_1.length l0_1) (hc0_1 : l0_1.length ≤ c0_1) (h : evaluate_proper.f l0_0 l0_1 a0_2 = some r) :
  Calls Tryd.prog 44 #[.agg #[.slice A0_0 l0_0.length c0_0, .slice A0_1 l0_1.length c0_1, .int .i64 a0_2]] w fun e w' => e = .returned (.bool r) ∧ Below w.heap.size w w' := by
 unfold evaluate_proper.f at h
 by_cases hs : (l0_0.all fun d => decide (d.f0.size ≤ 9223372036854775807)) = true ∧ l0_0.length < 4398046511104 ∧ l0_1.length < 4398046511104
 case neg => rw [if_neg hs] at h; cases h
 rw [if_pos hs] at h
 obtain rfl := Option.some.inj h
 clear h
 have HS := mk_ hs
 clear hs hc0_0 hc0_1
 have hu25 := Tryd.underlying25
 have hu73 := Tryd.underlying73
 have hmm := @run_makeMap Tryd.prog
 have HR0 := mk_ hr0_0; have HR1 := mk_ hr0_1; clear hr0_0 hr0_1
 have HL0 : Aside0 (tmB (-1) l0_1 = tmB (-1) l0_1) := ⟨rfl⟩
 go_enter Tryd.func44, Tryd.ntmps44
 go_wp2
 go_loopw [11] (fun v wr => ∃ (i : Int), v = .int .i64 i ∧ Aside0 (0 ≤ i) ∧ Aside0 (i ≤ (l0_1.length : Int)) ∧ Aside0 (tmB (if i = 0 then -1 else rd l0_1 (i - 1)) (l0_1.drop i.toNat) = tmB (-1) l0_1) ∧ Aside0 (wr.heap[w.heap.size]? = some (.cells #[.slice A0_0 l0_0.length c0_0, .slice A0_1 l0_1.length c0_1, .int .i64 a0_2] 25 (0, 0))) ∧ Aside0 (wr.heap.size = w.heap.size + 1) ∧ Aside0 (Below w.heap.size w wr)) (fun v _ => l0_1.length - (intOf v).toNat)
 case atStart => exact ⟨0, rfl, ⟨Int.le_refl _⟩, ⟨by omega⟩, ⟨rfl⟩, ⟨heap_alloc_new _ _⟩, ⟨World.size_alloc _ _⟩, ⟨below_alloc (Below.refl _ _) _⟩⟩
 case round =>
  obtain ⟨i, rfl, H0, HK, HT, HBK, HSZ, HB⟩ := hrel
  have b0 : wr.cell? ⟨w.heap.size, 0, none⟩ = some (.slice A0_0 l0_0.length c0_0) := (blk_cell HBK.out 0).trans rfl
  have b1 : wr.cell? ⟨w.heap.size, 1, none⟩ = some (.slice A0_1 l0_1.length c0_1) := (blk_cell HBK.out 1).trans rfl
  have b2 : wr.cell? ⟨w.heap.size, 2, none⟩ = some (.int .i64 a0_2) := (blk_cell HBK.out 2).trans rfl
  by_cases hlt : i < (l0_1.length : Int)
  ·have h0 := H0.out
   have hstep := tmB_at h0 hlt HT.out
   obtain ⟨ad, rfl, hx⟩ := Kd.at_int (Kd.C_below HR1.out HB.out) i h0 hlt
   have p0 : (0 ≤ i) = True := eq_true h0
   have p1 : (i < (l0_1.length : Int)) = True := eq_true hlt
   have e1 : wrap64 (i + 1) = i + 1 := by have := HS.out.2.2; unfold wrap64; omega
   have RET : tmB (-1) l0_1 = false → Aside0 (tmB (-1) l0_1 = false) := fun h => ⟨h⟩
   have NEXT : tmB (if i + 1 = 0 then -1 else rd l0_1 (i + 1 - 1)) (l0_1.drop (i + 1).toNat) = tmB (-1) l0_1 → (intOf (.int .i64 (i + 1))).toNat = i.toNat + 1 → ∃ j : Int, j = i + 1 ∧ Aside0 (0 ≤ j) ∧ Aside0 (j ≤ (l0_1.length : Int)) ∧ Aside0 (tmB (if j = 0 then -1 else rd l0_1 (j - 1)) (l0_1.drop j.toNat) = tmB (-1) l0_1) ∧ Aside0 (l0_1.length - j.toNat < l0_1.length - i.toNat) := fun h _ => ⟨i + 1, rfl, ⟨by omega⟩, ⟨by omega⟩, ⟨h⟩, ⟨by omega⟩⟩
   by_cases c1 : rd l0_1 i < 0
   ·have HRR := RET (by rw [hstep]; simp [c1])
    clear RET NEXT hstep e1
    have c1b : decide (rd l0_1 i < 0) = true := decide_eq_true c1
    clear c1
    go_wp2
    go_ret
    exact ⟨by rw [HRR.out]; rfl, HB.out⟩
   ·have c1b : decide (rd l0_1 i < 0) = false := decide_eq_false c1
    by_cases c2 : 1439999999 < rd l0_1 i
    ·have HRR := RET (by rw [hstep]; simp [c1, c2])
     clear RET NEXT hstep e1
     have c2b : decide (1439999999 < rd l0_1 i) = true := decide_eq_true c2
     clear c1 c2
     go_wp2
     go_ret
     exact ⟨by rw [HRR.out]; rfl, HB.out⟩
    ·have c2b : decide (1439999999 < rd l0_1 i) = false := decide_eq_false c2
     by_cases hk0 : i = 0
     ·have c3b : decide (0 < i) = false := decide_eq_false (by omega)
      obtain ⟨j, hj, g0, g1, g2, g3⟩ := NEXT (by rw [hstep]; rw [hk0] at c1 c2 ⊢; simp [c1, c2]; intro; omega) (by simp only [intOf]; omega)
      replace e1 := e1.trans hj.symm
      clear RET NEXT hstep c1 c2 HT hk0
      go_wp2
      go_roundw
      case rel => exact ⟨j, by rw [e1], g0, g1, g2, HBK, HSZ, HB⟩
      case measure => rw [e1]; exact g3.out
     ·have c3b : decide (0 < i) = true := decide_eq_true (by omega)
      obtain ⟨m, hm⟩ : ∃ m, m = i - 1 := ⟨_, rfl⟩
      have e2 : IntKind.i64.wrap (i - 1) = m := by rw [i64_w, hm]; have := HS.out.2.2; unfold wrap64; omega
      obtain ⟨ad', e', hx'⟩ := Kd.at_int (Kd.C_below HR1.out HB.out) m (by omega) (by omega)
      obtain rfl : ad = ad' := by injection e'
      have q0 : (0 ≤ m) = True := eq_true (by omega)
      have q1 : (m < (l0_1.length : Int)) = True := eq_true (by omega)
      rw [if_neg hk0, ← hm] at hstep
      by_cases c4 : rd l0_1 i ≤ rd l0_1 m
      ·have HRR := RET (by rw [hstep]; simp [c1, c2, c4])
       have c4b : decide (rd l0_1 i ≤ rd l0_1 m) = true := decide_eq_true c4
       clear RET NEXT hstep e1 c1 c2 c4 e' hk0 hm
       go_wp2
       go_ret
       exact ⟨by rw [HRR.out]; rfl, HB.out⟩
      ·have c4b : decide (rd l0_1 i ≤ rd l0_1 m) = false := decide_eq_false c4
       obtain ⟨j, hj, g0, g1, g2, g3⟩ := NEXT (by rw [hstep]; simp [c1, c2, c4]) (by simp only [intOf]; omega)
       replace e1 := e1.trans hj.symm
       clear RET NEXT hstep c1 c2 c4 e' hk0 HT hm
       go_wp2
       go_roundw
       case rel => exact ⟨j, by rw [e1], g0, g1, g2, HBK, HSZ, HB⟩
       case measure => rw [e1]; exact g3.out
  ·obtain rfl : i = (l0_1.length : Int) := by have := HK.out; omega
   have HTT : Aside0 (tmB (-1) l0_1 = true) := ⟨by have := HT.out; rw [Int.toNat_natCast, List.drop_length, tmB] at this; exact this.symm⟩
   clear HT
   have HBM := mk_ (Below.alloc HB.out (by have := HSZ.out; omega) (.map #[] 0))
   have HM := mk_ (setM_congr (setM_made (P := Tryd.prog) (K := 9) (E := 4) wr) (S' := sawS l0_0 0) (fun v => ⟨fun h => h.elim, by rintro ⟨d, hd, _⟩; simp at hd⟩))
   have HB0 := mk_ (blk_alloc HBK.out (.map #[] 0))
   have HZ := mk_ (World.size_alloc wr (.map #[] 0))
   have d0 : (wr.alloc (.map #[] 0)).cell? ⟨w.heap.size, 0, none⟩ = some (.slice A0_0 l0_0.length c0_0) := (blk_cell HB0.out 0).trans rfl
   clear b0 b1 b2
   go_wp2
   generalize wr.alloc (.map #[] 0) = W1 at HBM HM HB0 HZ ⊢
   have HMB : Aside0 (w.heap.size < wr.heap.size) := ⟨by have := HSZ.out; omega⟩
   clear HSZ d0 HBK HB
   generalize wr.heap.size = mb at HM HZ HMB ⊢
   clear wr
   go_loopw [41] (fun v w1 => ∃ (i : Int), v = .int .i64 i ∧ Aside0 (0 ≤ i) ∧ Aside0 (i ≤ (l0_0.length : Int)) ∧ Aside0 (dmB (((l0_0.take i.toNat).map S73.f0).reverse) (l0_0.drop i.toNat) = dmB [] l0_0) ∧ Aside0 (w1.heap[w.heap.size]? = some (.cells #[.slice A0_0 l0_0.length c0_0, .slice A0_1 l0_1.length c0_1, .int .i64 a0_2] 25 (0, 0))) ∧ Aside0 (mb < w1.heap.size) ∧ Aside0 (SetM Tryd.prog 9 4 w1 mb i.toNat (sawS l0_0 i.toNat)) ∧ Aside0 (Below w.heap.size w w1)) (fun v _ => l0_0.length - (intOf v).toNat)
   case atStart => exact ⟨0, rfl, ⟨Int.le_refl _⟩, ⟨by omega⟩, ⟨rfl⟩, HB0, ⟨by have := HZ.out; omega⟩, HM, HBM⟩
   case round =>
    clear HBM HM HB0 HZ HK H0 hlt
    obtain ⟨i, rfl, H0, HK, HT, HBK, HSZ, HM, HB⟩ := hrel
    have b2 : wr.cell? ⟨w.heap.size, 2, none⟩ = some (.int .i64 a0_2) := (blk_cell HBK.out 2).trans rfl
    by_cases hlt : i < (l0_0.length : Int)
    ·have h0 := H0.out
     have hk : i.toNat < l0_0.length := by omega
     have hstep := dmB_at hk HT.out
     have hi : ((i.toNat : Nat) : Int) = i := by omega
     rw [hi] at hstep
     have hsu := fun v => sawS_succ hk v
     rw [hi] at hsu
     obtain ⟨ad, A1, c1, rfl, hx0, hx1, hl1, hg1⟩ := at_T73 (Kd.C_below HR0.out HB.out) i h0 hlt
     have p0 : (0 ≤ i) = True := eq_true h0
     have p1 : (i < (l0_0.length : Int)) = True := eq_true hlt
     have hsz : (rd_T73 l0_0 i).f0.size ≤ maxLen := by
      have := (List.all_eq_true.1 HS.out.1) (rd_T73 l0_0 i) (by unfold rd_T73; rw [List.getD_eq_getElem?_getD, List.getElem?_eq_getElem hk]; exact List.getElem_mem hk)
      simpa [maxLen] using of_decide_eq_true this
     obtain ⟨x, hx⟩ : ∃ x, x = rd_T73 l0_0 i := ⟨_, rfl⟩
     rw [← hx] at hx0 hx1 hl1 hg1 hsz hstep hsu
     clear hx
     have HA := mk_ (below_alloc HB.out (.cells #[.string x.f0, .slice A1 x.f1.length c1] 73))
     have HBK1 := mk_ (blk_alloc HBK.out (.cells #[.string x.f0, .slice A1 x.f1.length c1] 73))
     have HZ1 := mk_ (World.size_alloc wr (.cells #[.string x.f0, .slice A1 x.f1.length c1] 73))
     have HM1 := mk_ (setM_on HM.out (w' := wr.alloc (.cells #[.string x.f0, .slice A1 x.f1.length c1] 73)) ((below_alloc (Below.refl wr.heap.size wr) _).block mb (by have := HSZ.out; omega)))
     have e1 : wrap64 (i + 1) = i + 1 := by have := HS.out.2.1; unfold wrap64; omega
     have HKEY := mk_ (Go.WideMaps.keyOf_string_mk Tryd.underlying9 hsz)
     have HZV : ∀ w : World, (zeroValue 4).run Tryd.prog w = .ok (.bool false) w := fun w => by kernel_rfl
     clear hsz hl1 hg1 b2
     by_cases c1 : sawS l0_0 i.toNat (.string x.f0)
     ·have HRR : Aside0 (dmB [] l0_0 = false) := ⟨by rw [hstep, (sawS_any x.f0).2 c1]; rfl⟩
      have HC := mk_ c1
      clear c1 hstep hsu
      go_wp2_with (at_lookup; refine wpList_look rfl _ _ 100 rfl law9 Tryd.underlying100 (HZV _) mb _ _ rfl HM1.out _ _ rfl HKEY.out true ⟨fun _ => HC.out, fun _ => rfl⟩ ?_)
      go_ret
      exact ⟨by rw [HRR.out, HTT.out]; rfl, HA.out⟩
     ·have HC := mk_ c1
      have hany : ((((l0_0.take i.toNat).map S73.f0).reverse).any fun u => u.data == x.f0.data) = false := by rw [Bool.eq_false_iff]; exact fun h => c1 ((sawS_any x.f0).1 h)
      rw [hany] at hstep
      have HN : Aside0 (dmB (((l0_0.take (i.toNat + 1)).map S73.f0).reverse) (l0_0.drop (i.toNat + 1)) = dmB [] l0_0) := ⟨by rw [hstep]; rfl⟩
      have HSU := mk_ hsu
      clear c1 hstep hsu hany HT
      go_wp2_with (first | (at_lookup; refine wpList_look rfl _ _ 100 rfl law9 Tryd.underlying100 (HZV _) mb _ _ rfl HM1.out _ _ rfl HKEY.out false ⟨(fun h => nomatch h), fun h => absurd h HC.out⟩ ?_) | (at_mapUpdate; refine wpList_put rfl _ _ _ 100 rfl law9 Tryd.underlying100 Tryd.underlying4 mb _ _ rfl HM1.out (by have := HS.out.2.1; simp only [maxLen]; omega) _ _ rfl rfl HKEY.out ?_; intro w2 hm2 hg2; have HM2 := mk_ (setM_congr hm2 HSU.out); have HB2 := mk_ (grown_below HA.out hg2 (by have := HMB.out; omega) HA.out.size); have HG2 := mk_ hg2; clear hm2 hg2))
      go_roundw
      case rel => exact ⟨i + 1, by rw [e1], ⟨by omega⟩, ⟨by omega⟩, by rw [show (i + 1).toNat = i.toNat + 1 by omega]; exact HN, ⟨(HG2.out.block _ (by have := HZ1.out; have := HSZ.out; have := HMB.out; omega) (by have := HMB.out; simp; omega)).trans HBK1.out⟩, ⟨by have := HG2.out.size; have := HSZ.out; have := HZ1.out; omega⟩, by rw [show (i + 1).toNat = i.toNat + 1 by omega]; exact HM2, HB2⟩
      case measure => rw [e1]; simp only [intOf]; omega
    ·obtain rfl : i = (l0_0.length : Int) := by have := HK.out; omega
     have HDD : Aside0 (dmB [] l0_0 = true) := ⟨by have := HT.out; rw [Int.toNat_natCast, List.drop_length, dmB] at this; exact this.symm⟩
     clear HT
     by_cases c1 : a0_2 = 1
     ·have c1b : (a0_2 == 1) = true := beq_iff_eq.mpr c1
      clear c1
      go_wp2
      go_ret
      exact ⟨by rw [HTT.out, HDD.out]; rfl, HB.out⟩
     ·have c1b : (a0_2 == 1) = false := beq_eq_false_iff_ne.mpr c1
      clear c1
      go_wp2
      go_ret
      exact ⟨by rw [HTT.out, HDD.out]; rfl, HB.out⟩
mutual
def formula_Size.l0 : Nat → Int → List (S32) → Int → Int → Option (Int)
 | 0, _, _, _, _ => none
 | k + 1, x3, x7, x8, x9 => if x9 < x8 then (if 0 ≤ x9 then (if x9 < (x7.length : Int) then ((formula_Size.f k ((rd_T32 x7 x9).f0) ((rd_T32 x7 x9).f1) ((rd_T32 x7 x9).f2) ((rd_T32 x7 x9).f3) ((rd_T32 x7 x9).f4) ((rd_T32 x7 x9).f5)).bind fun t104 => (formula_Size.l0 k (wrap64 (x3 + t104)) x7 x8 (wrap64 (x9 + 1)))) else (none)) else (none)) else (some x3)
def formula_Size.f : Nat → Int → ByteArray → List (S92) → Int → Int → List (S32) → Option (Int)
 | 0, _, _, _, _, _, _ => none
 | k + 1, a0_0, a0_1, l0_2, a0_3, a0_4, l0_5 => formula_Size.l0 k 1 l0_5 (l0_5.length : Int) 0
end
theorem formula_Size.calls (k : Nat) : ∀ (a0_0 : Int) (a0_1 : ByteArray) (A0_2 : Option Addr) (c0_2 : Nat) (l0_2 : List (S92)) (a0_3 : Int) (a0_4 : Int) (A0_5 : Option Addr) (c0_5 : Nat) (l0_5 : List (S32)) (r : Int) (w : World) (hr0_2 : Kd.C k92 w A0_2 l0_2.length l0_2) (hc0_2 : l0_2.length ≤ c0_2) (hr0_5 : Kd.C k32 w A0_5 l0_5.length l0_5) (hc0_5 : l0_5.length ≤ c0_5) (h : formula_Size.f k a0_0 a0_1 l0_2 a0_3 a0_4 l0_5 = some r),
  Calls Tryd.prog 72 #[.agg #[.int .i64 a0_0, .string a0_1, .slice A0_2 l0_2.length c0_2, .int .i64 a0_3, .int .i64 a0_4, .slice A0_5 l0_5.length c0_5]] w fun e w' => e = .returned (.int .i64 r) ∧ Below w.heap.size w w' := by
 induction k using Nat.strongRecOn with
 | _ k ih =>
 intro a0_0 a0_1 A0_2 c0_2 l0_2 a0_3 a0_4 A0_5 c0_5 l0_5 r w hr0_2 hc0_2 hr0_5 hc0_5 h
 cases k with
 | zero => exact absurd h (by simp [formula_Size.f])
 | succ k =>
 simp only [formula_Size.f] at h
 have hu32 := Tryd.underlying32
 have HR0_2 := mk_ hr0_2; have HC0_2 := mk_ hc0_2; clear hr0_2 hc0_2
 have HR0_5 := mk_ hr0_5; have HC0_5 := mk_ hc0_5; clear hr0_5 hc0_5
 have HB := mk_ (Below.refl w.heap.size w)
 have H : (formula_Size.l0 k 1 l0_5 (l0_5.length : Int) 0) = some r := h
 clear h
 have H' := mk_ H
 clear H
 go_enter Tryd.func72, Tryd.ntmps72
 go_wp2_with (first | ((with_reducible refine gate_dst (N := 1) rfl ?_); refine bx_ 1 #[.int .i64 a0_0, .string a0_1, .slice A0_2 l0_2.length c0_2, .int .i64 a0_3, .int .i64 a0_4, .slice A0_5 l0_5.length c0_5] 32 ?_; intro gb101 hg w2 hbox hb; have BK101 := mk_ (hbox); have GW101 := mk_ (gs_ hg (be_ HB)); have GE101 := mk_ (gs_ hg (be_ HB)); replace HB := mk_ (below_step (be_ HB) hb); clear hb hbox hg; obtain ⟨_, _, _, _, _, _, _, _, _, _, _, _⟩ := hb6_ BK101))
 go_loopg [3, 9] k (fun kq v3 v9 w' => ∃ (x3_1 : Int) (x9_1 : Int), v3 = .int .i64 x3_1 ∧ v9 = .int .i64 x9_1 ∧ Aside0 (formula_Size.l0 kq x3_1 l0_5 (l0_5.length : Int) x9_1 = some r) ∧ Aside0 (kq ≤ k) ∧ Aside0 (w'.heap[gb101]? = some (.cells #[.int .i64 a0_0, .string a0_1, (.slice A0_2 l0_2.length c0_2), .int .i64 a0_3, .int .i64 a0_4, (.slice A0_5 l0_5.length c0_5)] 32 (0, 0))) ∧ Aside0 (Below w.heap.size w w'))
 case atStart => exact ⟨(1), (0), fi_, fi_, H', ⟨Nat.le_refl _⟩, ⟨bq_ BK101⟩, ⟨be1_ HB GE101⟩⟩
 case round =>
  clear H'
  obtain ⟨x3_1, x9_1, rfl, rfl, HA, HK1, BK101, HB⟩ := hrel
  cases gk with
  | zero => exact absurd HA.out (by simp [formula_Size.l0])
  | succ k1 =>
   have H := HA.out
   clear HA
   simp only [formula_Size.l0] at H
   by_cases c4 : x9_1 < (l0_5.length : Int)
   ·rw [if_pos c4] at H
    have c4b0 : decide (x9_1 < (l0_5.length : Int)) = true := decide_eq_true c4
    clear c4
    by_cases c5 : 0 ≤ x9_1
    ·rw [if_pos c5] at H
     have c5b0 : decide (0 ≤ x9_1) = true := decide_eq_true c5
     clear c5
     by_cases c6 : x9_1 < (l0_5.length : Int)
     ·rw [if_pos c6] at H
      have c6b0 : decide (x9_1 < (l0_5.length : Int)) = true := decide_eq_true c6
      clear c6
      replace H := Option.bind_eq_some_iff.mp H
      obtain ⟨t104, A70, H⟩ := H
      replace H : (formula_Size.l0 k1 (wrap64 (x3_1 + t104)) l0_5 (l0_5.length : Int) (wrap64 (x9_1 + 1))) = some r := H
      have A7 := mk_ A70
      clear A70
      have H' := mk_ H
      clear H
      have p102 : 0 ≤ (x9_1 : Int) := of_decide_eq_true (by first | (with_reducible assumption) | assumption)
      have q102 : x9_1 < (l0_5.length : Int) := of_decide_eq_true (by first | (with_reducible assumption) | assumption)
      obtain ⟨ad102, A102_2, c102_2, A102_5, c102_5, e102, hx102_0, hx102_1, hx102_2, hx102_3, hx102_4, hx102_5, hl102_2, hi102_2, hl102_5, hi102_5⟩ := at_T32 HR0_5.out x9_1 p102 q102
      cases e102
      replace hx102_0 := cb_ HB hx102_0
      replace hx102_1 := cb_ HB hx102_1
      replace hx102_2 := cb_ HB hx102_2
      replace hx102_3 := cb_ HB hx102_3
      replace hx102_4 := cb_ HB hx102_4
      replace hx102_5 := cb_ HB hx102_5
      have HR102_2 := mk_ hi102_2; have HC102_2 := mk_ hl102_2; clear hi102_2 hl102_2
      have HR102_5 := mk_ hi102_5; have HC102_5 := mk_ hl102_5; clear hi102_5 hl102_5
      replace p102 := eq_true p102
      replace q102 := eq_true q102
      go_wp2_with (first | ((with_reducible refine gate_dst (N := 5) rfl ?_); refine bx_ 5 #[.int .i64 0, .string (⟨#[]⟩ : ByteArray), .slice none 0 0, .int .i64 0, .int .i64 0, .slice none 0 0] 32 ?_; intro gb103 hg w8 hbox hb; have n0_ := mk_ (bb_ BK101 hb); have n1_ := mk_ (below_step (be1_ HB GE101) hb); have n2_ := mk_ (hbox); have n3_ := mk_ (gs_ hg (be1_ HB GE101)); have n4_ := mk_ (gs_ hg (be1_ HB GE101)); have n5_ := mk_ ((by rw [hg]; exact Nat.ne_of_lt (blk_lt (g := gb101) (o := .cells #[.int .i64 a0_0, .string a0_1, .slice A0_2 l0_2.length c0_2, .int .i64 a0_3, .int .i64 a0_4, .slice (some ad102) l0_5.length c0_5] 32 (0, 0)) (bq_ BK101)) : gb101 ≠ gb103)); have n6_ := mk_ ((by rw [hg]; exact Nat.ne_of_gt (blk_lt (g := gb101) (o := .cells #[.int .i64 a0_0, .string a0_1, .slice A0_2 l0_2.length c0_2, .int .i64 a0_3, .int .i64 a0_4, .slice (some ad102) l0_5.length c0_5] 32 (0, 0)) (bq_ BK101)) : gb103 ≠ gb101)); clear BK101; clear HB; have BK101 := n0_; have HB := n1_; have BK103 := n2_; have GW103 := n3_; have GE103 := n4_; have NB101_103 := n5_; have NB103_101 := n6_; clear n0_ n1_ n2_ n3_ n4_ n5_ n6_; clear hb hbox hg; have hnb9 := NB103_101.out; have hnc9 := NB101_103.out; obtain ⟨_, _, _, _, _, _, _, _, _, _, _, _⟩ := hb6_ BK103) | ((with_reducible refine gate_callee (f := 72) rfl ?_); refine gl_ (some 15) Tryd.func72 #[.agg #[.int .i64 ((rd_T32 l0_5 x9_1).f0), .string ((rd_T32 l0_5 x9_1).f1), .slice A102_2 ((rd_T32 l0_5 x9_1).f2).length c102_2, .int .i64 ((rd_T32 l0_5 x9_1).f3), .int .i64 ((rd_T32 l0_5 x9_1).f4), .slice A102_5 ((rd_T32 l0_5 x9_1).f5).length c102_5]] ?_; (with_reducible refine (ih k1 (by have := HK1.out; omega) ((rd_T32 l0_5 x9_1).f0) ((rd_T32 l0_5 x9_1).f1) _ _ ((rd_T32 l0_5 x9_1).f2) ((rd_T32 l0_5 x9_1).f3) ((rd_T32 l0_5 x9_1).f4) _ _ ((rd_T32 l0_5 x9_1).f5) t104 _ ?side1 ?side2 ?side3 ?side4 A7.out).mono ?_); (case side1 => exact Kd.C_below HR102_2.out (be2_ HB GE101 GE103)); (case side2 => exact HC102_2.out); (case side3 => exact Kd.C_below HR102_5.out (be2_ HB GE101 GE103)); (case side4 => exact HC102_5.out); rintro e w11 ⟨rfl, hb⟩; refine ⟨_, rfl, ?_⟩; have n0_ := mk_ (blk_below (g := gb101) (o := .cells #[.int .i64 a0_0, .string a0_1, .slice A0_2 l0_2.length c0_2, .int .i64 a0_3, .int .i64 a0_4, .slice (some ad102) l0_5.length c0_5] 32 (0, 0)) (by refine sb_ ?_; refine blk_far ?_ NB101_103.out _; refine sb_ ?_; refine blk_far ?_ NB101_103.out _; refine sb_ ?_; refine blk_far ?_ NB101_103.out _; refine sb_ ?_; refine blk_far ?_ NB101_103.out _; refine sb_ ?_; refine blk_far ?_ NB101_103.out _; refine sb_ ?_; refine blk_far ?_ NB101_103.out _; refine sb_ ?_; exact BK101.out) hb); have n1_ := mk_ (blk_below (g := gb103) (o := .cells #[.int .i64 ((rd_T32 l0_5 x9_1).f0), .string ((rd_T32 l0_5 x9_1).f1), .slice A102_2 ((rd_T32 l0_5 x9_1).f2).length c102_2, .int .i64 ((rd_T32 l0_5 x9_1).f3), .int .i64 ((rd_T32 l0_5 x9_1).f4), .slice A102_5 ((rd_T32 l0_5 x9_1).f5).length c102_5] 32 (0, 0)) (by refine sb_ ?_; refine blk_put (cs := #[.int .i64 ((rd_T32 l0_5 x9_1).f0), .string ((rd_T32 l0_5 x9_1).f1), .slice A102_2 ((rd_T32 l0_5 x9_1).f2).length c102_2, .int .i64 ((rd_T32 l0_5 x9_1).f3), .int .i64 ((rd_T32 l0_5 x9_1).f4), .slice none 0 0]) ?_ 5 _ rfl; refine sb_ ?_; refine blk_put (cs := #[.int .i64 ((rd_T32 l0_5 x9_1).f0), .string ((rd_T32 l0_5 x9_1).f1), .slice A102_2 ((rd_T32 l0_5 x9_1).f2).length c102_2, .int .i64 ((rd_T32 l0_5 x9_1).f3), .int .i64 0, .slice none 0 0]) ?_ 4 _ rfl; refine sb_ ?_; refine blk_put (cs := #[.int .i64 ((rd_T32 l0_5 x9_1).f0), .string ((rd_T32 l0_5 x9_1).f1), .slice A102_2 ((rd_T32 l0_5 x9_1).f2).length c102_2, .int .i64 0, .int .i64 0, .slice none 0 0]) ?_ 3 _ rfl; refine sb_ ?_; refine blk_put (cs := #[.int .i64 ((rd_T32 l0_5 x9_1).f0), .string ((rd_T32 l0_5 x9_1).f1), .slice none 0 0, .int .i64 0, .int .i64 0, .slice none 0 0]) ?_ 2 _ rfl; refine sb_ ?_; refine blk_put (cs := #[.int .i64 ((rd_T32 l0_5 x9_1).f0), .string (⟨#[]⟩ : ByteArray), .slice none 0 0, .int .i64 0, .int .i64 0, .slice none 0 0]) ?_ 1 _ rfl; refine sb_ ?_; refine blk_put (cs := #[.int .i64 0, .string (⟨#[]⟩ : ByteArray), .slice none 0 0, .int .i64 0, .int .i64 0, .slice none 0 0]) ?_ 0 _ rfl; refine sb_ ?_; exact BK103.out) hb); have n2_ := mk_ (below_step (be2_ HB GE101 GE103) hb); clear BK101; clear BK103; clear HB; have BK101 := n0_; have BK103 := n1_; have HB := n2_; clear n0_ n1_ n2_))
      go_roundg k1
      case measure => have := HK1.out; omega
      case rel => exact ⟨(wrap64 (x3_1 + t104)), (wrap64 (x9_1 + 1)), fi_, fi_, H', ⟨by have := HK1.out; omega⟩, ⟨bq_ BK101⟩, ⟨be2_ HB GE101 GE103⟩⟩
     ·rw [if_neg c6] at H
      exact absurd H (by simp)
    ·rw [if_neg c5] at H
     exact absurd H (by simp)
   ·rw [if_neg c4] at H
    have c4b0 : decide (x9_1 < (l0_5.length : Int)) = false := decide_eq_false c4
    clear c4
    obtain rfl := Option.some.inj H
    go_wp2
    go_ret
    exact ⟨er_, be1_ HB GE101⟩
mutual
def formula_Depth.l0 : Nat → Int → List (S32) → Int → Int → Option (Int)
 | 0, _, _, _, _ => none
 | k + 1, x3, x7, x8, x9 => if x9 < x8 then (if 0 ≤ x9 then (if x9 < (x7.length : Int) then ((formula_Depth.f k ((rd_T32 x7 x9).f0) ((rd_T32 x7 x9).f1) ((rd_T32 x7 x9).f2) ((rd_T32 x7 x9).f3) ((rd_T32 x7 x9).f4) ((rd_T32 x7 x9).f5)).bind fun t108 => (formula_Depth.l0 k (mx x3 t108) x7 x8 (wrap64 (x9 + 1)))) else (none)) else (none)) else (some (wrap64 (x3 + 1)))
def formula_Depth.f : Nat → Int → ByteArray → List (S92) → Int → Int → List (S32) → Option (Int)
 | 0, _, _, _, _, _, _ => none
 | k + 1, a0_0, a0_1, l0_2, a0_3, a0_4, l0_5 => formula_Depth.l0 k 0 l0_5 (l0_5.length : Int) 0
end
theorem formula_Depth.calls (k : Nat) : ∀ (a0_0 : Int) (a0_1 : ByteArray) (A0_2 : Option Addr) (c0_2 : Nat) (l0_2 : List (S92)) (a0_3 : Int) (a0_4 : Int) (A0_5 : Option Addr) (c0_5 : Nat) (l0_5 : List (S32)) (r : Int) (w : World) (hr0_2 : Kd.C k92 w A0_2 l0_2.length l0_2) (hc0_2 : l0_2.length ≤ c0_2) (hr0_5 : Kd.C k32 w A0_5 l0_5.length l0_5) (hc0_5 : l0_5.length ≤ c0_5) (h : formula_Depth.f k a0_0 a0_1 l0_2 a0_3 a0_4 l0_5 = some r),
  Calls Tryd.prog 73 #[.agg #[.int .i64 a0_0, .string a0_1, .slice A0_2 l0_2.length c0_2, .int .i64 a0_3, .int .i64 a0_4, .slice A0_5 l0_5.length c0_5]] w fun e w' => e = .returned (.int .i64 r) ∧ Below w.heap.size w w' := by
 induction k using Nat.strongRecOn with
 | _ k ih =>
 intro a0_0 a0_1 A0_2 c0_2 l0_2 a0_3 a0_4 A0_5 c0_5 l0_5 r w hr0_2 hc0_2 hr0_5 hc0_5 h
 cases k with
 | zero => exact absurd h (by simp [formula_Depth.f])
 | succ k =>
 simp only [formula_Depth.f] at h
 have hu32 := Tryd.underlying32
 have HR0_2 := mk_ hr0_2; have HC0_2 := mk_ hc0_2; clear hr0_2 hc0_2
 have HR0_5 := mk_ hr0_5; have HC0_5 := mk_ hc0_5; clear hr0_5 hc0_5
 have HB := mk_ (Below.refl w.heap.size w)
 have H : (formula_Depth.l0 k 0 l0_5 (l0_5.length : Int) 0) = some r := h
 clear h
 have H' := mk_ H
 clear H
 go_enter Tryd.func73, Tryd.ntmps73
 go_wp2_with (first | ((with_reducible refine gate_dst (N := 1) rfl ?_); refine bx_ 1 #[.int .i64 a0_0, .string a0_1, .slice A0_2 l0_2.length c0_2, .int .i64 a0_3, .int .i64 a0_4, .slice A0_5 l0_5.length c0_5] 32 ?_; intro gb105 hg w2 hbox hb; have BK105 := mk_ (hbox); have GW105 := mk_ (gs_ hg (be_ HB)); have GE105 := mk_ (gs_ hg (be_ HB)); replace HB := mk_ (below_step (be_ HB) hb); clear hb hbox hg; obtain ⟨_, _, _, _, _, _, _, _, _, _, _, _⟩ := hb6_ BK105))
 go_loopg [3, 9] k (fun kq v3 v9 w' => ∃ (x3_1 : Int) (x9_1 : Int), v3 = .int .i64 x3_1 ∧ v9 = .int .i64 x9_1 ∧ Aside0 (formula_Depth.l0 kq x3_1 l0_5 (l0_5.length : Int) x9_1 = some r) ∧ Aside0 (kq ≤ k) ∧ Aside0 (w'.heap[gb105]? = some (.cells #[.int .i64 a0_0, .string a0_1, (.slice A0_2 l0_2.length c0_2), .int .i64 a0_3, .int .i64 a0_4, (.slice A0_5 l0_5.length c0_5)] 32 (0, 0))) ∧ Aside0 (Below w.heap.size w w'))
 case atStart => exact ⟨(0), (0), fi_, fi_, H', ⟨Nat.le_refl _⟩, ⟨bq_ BK105⟩, ⟨be1_ HB GE105⟩⟩
 case round =>
  clear H'
  obtain ⟨x3_1, x9_1, rfl, rfl, HA, HK1, BK105, HB⟩ := hrel
  cases gk with
  | zero => exact absurd HA.out (by simp [formula_Depth.l0])
  | succ k1 =>
   have H := HA.out
   clear HA
   simp only [formula_Depth.l0] at H
   by_cases c4 : x9_1 < (l0_5.length : Int)
   ·rw [if_pos c4] at H
    have c4b0 : decide (x9_1 < (l0_5.length : Int)) = true := decide_eq_true c4
    clear c4
    by_cases c5 : 0 ≤ x9_1
    ·rw [if_pos c5] at H
     have c5b0 : decide (0 ≤ x9_1) = true := decide_eq_true c5
     clear c5
     by_cases c6 : x9_1 < (l0_5.length : Int)
     ·rw [if_pos c6] at H
      have c6b0 : decide (x9_1 < (l0_5.length : Int)) = true := decide_eq_true c6
      clear c6
      replace H := Option.bind_eq_some_iff.mp H
      obtain ⟨t108, A70, H⟩ := H
      replace H : (formula_Depth.l0 k1 (mx x3_1 t108) l0_5 (l0_5.length : Int) (wrap64 (x9_1 + 1))) = some r := H
      have A7 := mk_ A70
      clear A70
      obtain ⟨ji8, hji8⟩ : ∃ j_ : Int, (mx x3_1 t108) = j_ := ⟨_, rfl⟩
      replace H : (formula_Depth.l0 k1 ji8 l0_5 (l0_5.length : Int) (wrap64 (x9_1 + 1))) = some r := by first | (rw [hji8] at H; exact H) | (simp only [hji8] at H ⊢; exact H)
      (try rw [hji8] at A7)
      have hji8_ : (if x3_1 < t108 then t108 else x3_1) = ji8 := hji8
      have H' := mk_ H
      clear H
      have p106 : 0 ≤ (x9_1 : Int) := of_decide_eq_true (by first | (with_reducible assumption) | assumption)
      have q106 : x9_1 < (l0_5.length : Int) := of_decide_eq_true (by first | (with_reducible assumption) | assumption)
      obtain ⟨ad106, A106_2, c106_2, A106_5, c106_5, e106, hx106_0, hx106_1, hx106_2, hx106_3, hx106_4, hx106_5, hl106_2, hi106_2, hl106_5, hi106_5⟩ := at_T32 HR0_5.out x9_1 p106 q106
      cases e106
      replace hx106_0 := cb_ HB hx106_0
      replace hx106_1 := cb_ HB hx106_1
      replace hx106_2 := cb_ HB hx106_2
      replace hx106_3 := cb_ HB hx106_3
      replace hx106_4 := cb_ HB hx106_4
      replace hx106_5 := cb_ HB hx106_5
      have HR106_2 := mk_ hi106_2; have HC106_2 := mk_ hl106_2; clear hi106_2 hl106_2
      have HR106_5 := mk_ hi106_5; have HC106_5 := mk_ hl106_5; clear hi106_5 hl106_5
      replace p106 := eq_true p106
      replace q106 := eq_true q106
      go_wp2_with (first | ((with_reducible refine gate_dst (N := 5) rfl ?_); refine bx_ 5 #[.int .i64 0, .string (⟨#[]⟩ : ByteArray), .slice none 0 0, .int .i64 0, .int .i64 0, .slice none 0 0] 32 ?_; intro gb107 hg w9 hbox hb; have n0_ := mk_ (bb_ BK105 hb); have n1_ := mk_ (below_step (be1_ HB GE105) hb); have n2_ := mk_ (hbox); have n3_ := mk_ (gs_ hg (be1_ HB GE105)); have n4_ := mk_ (gs_ hg (be1_ HB GE105)); have n5_ := mk_ ((by rw [hg]; exact Nat.ne_of_lt (blk_lt (g := gb105) (o := .cells #[.int .i64 a0_0, .string a0_1, .slice A0_2 l0_2.length c0_2, .int .i64 a0_3, .int .i64 a0_4, .slice (some ad106) l0_5.length c0_5] 32 (0, 0)) (bq_ BK105)) : gb105 ≠ gb107)); have n6_ := mk_ ((by rw [hg]; exact Nat.ne_of_gt (blk_lt (g := gb105) (o := .cells #[.int .i64 a0_0, .string a0_1, .slice A0_2 l0_2.length c0_2, .int .i64 a0_3, .int .i64 a0_4, .slice (some ad106) l0_5.length c0_5] 32 (0, 0)) (bq_ BK105)) : gb107 ≠ gb105)); clear BK105; clear HB; have BK105 := n0_; have HB := n1_; have BK107 := n2_; have GW107 := n3_; have GE107 := n4_; have NB105_107 := n5_; have NB107_105 := n6_; clear n0_ n1_ n2_ n3_ n4_ n5_ n6_; clear hb hbox hg; have hnb10 := NB107_105.out; have hnc10 := NB105_107.out; obtain ⟨_, _, _, _, _, _, _, _, _, _, _, _⟩ := hb6_ BK107) | ((with_reducible refine gate_callee (f := 73) rfl ?_); refine gl_ (some 15) Tryd.func73 #[.agg #[.int .i64 ((rd_T32 l0_5 x9_1).f0), .string ((rd_T32 l0_5 x9_1).f1), .slice A106_2 ((rd_T32 l0_5 x9_1).f2).length c106_2, .int .i64 ((rd_T32 l0_5 x9_1).f3), .int .i64 ((rd_T32 l0_5 x9_1).f4), .slice A106_5 ((rd_T32 l0_5 x9_1).f5).length c106_5]] ?_; (with_reducible refine (ih k1 (by have := HK1.out; omega) ((rd_T32 l0_5 x9_1).f0) ((rd_T32 l0_5 x9_1).f1) _ _ ((rd_T32 l0_5 x9_1).f2) ((rd_T32 l0_5 x9_1).f3) ((rd_T32 l0_5 x9_1).f4) _ _ ((rd_T32 l0_5 x9_1).f5) t108 _ ?side1 ?side2 ?side3 ?side4 A7.out).mono ?_); (case side1 => exact Kd.C_below HR106_2.out (be2_ HB GE105 GE107)); (case side2 => exact HC106_2.out); (case side3 => exact Kd.C_below HR106_5.out (be2_ HB GE105 GE107)); (case side4 => exact HC106_5.out); rintro e w12 ⟨rfl, hb⟩; refine ⟨_, rfl, ?_⟩; have n0_ := mk_ (blk_below (g := gb105) (o := .cells #[.int .i64 a0_0, .string a0_1, .slice A0_2 l0_2.length c0_2, .int .i64 a0_3, .int .i64 a0_4, .slice (some ad106) l0_5.length c0_5] 32 (0, 0)) (by refine sb_ ?_; refine blk_far ?_ NB105_107.out _; refine sb_ ?_; refine blk_far ?_ NB105_107.out _; refine sb_ ?_; refine blk_far ?_ NB105_107.out _; refine sb_ ?_; refine blk_far ?_ NB105_107.out _; refine sb_ ?_; refine blk_far ?_ NB105_107.out _; refine sb_ ?_; refine blk_far ?_ NB105_107.out _; refine sb_ ?_; exact BK105.out) hb); have n1_ := mk_ (blk_below (g := gb107) (o := .cells #[.int .i64 ((rd_T32 l0_5 x9_1).f0), .string ((rd_T32 l0_5 x9_1).f1), .slice A106_2 ((rd_T32 l0_5 x9_1).f2).length c106_2, .int .i64 ((rd_T32 l0_5 x9_1).f3), .int .i64 ((rd_T32 l0_5 x9_1).f4), .slice A106_5 ((rd_T32 l0_5 x9_1).f5).length c106_5] 32 (0, 0)) (by refine sb_ ?_; refine blk_put (cs := #[.int .i64 ((rd_T32 l0_5 x9_1).f0), .string ((rd_T32 l0_5 x9_1).f1), .slice A106_2 ((rd_T32 l0_5 x9_1).f2).length c106_2, .int .i64 ((rd_T32 l0_5 x9_1).f3), .int .i64 ((rd_T32 l0_5 x9_1).f4), .slice none 0 0]) ?_ 5 _ rfl; refine sb_ ?_; refine blk_put (cs := #[.int .i64 ((rd_T32 l0_5 x9_1).f0), .string ((rd_T32 l0_5 x9_1).f1), .slice A106_2 ((rd_T32 l0_5 x9_1).f2).length c106_2, .int .i64 ((rd_T32 l0_5 x9_1).f3), .int .i64 0, .slice none 0 0]) ?_ 4 _ rfl; refine sb_ ?_; refine blk_put (cs := #[.int .i64 ((rd_T32 l0_5 x9_1).f0), .string ((rd_T32 l0_5 x9_1).f1), .slice A106_2 ((rd_T32 l0_5 x9_1).f2).length c106_2, .int .i64 0, .int .i64 0, .slice none 0 0]) ?_ 3 _ rfl; refine sb_ ?_; refine blk_put (cs := #[.int .i64 ((rd_T32 l0_5 x9_1).f0), .string ((rd_T32 l0_5 x9_1).f1), .slice none 0 0, .int .i64 0, .int .i64 0, .slice none 0 0]) ?_ 2 _ rfl; refine sb_ ?_; refine blk_put (cs := #[.int .i64 ((rd_T32 l0_5 x9_1).f0), .string (⟨#[]⟩ : ByteArray), .slice none 0 0, .int .i64 0, .int .i64 0, .slice none 0 0]) ?_ 1 _ rfl; refine sb_ ?_; refine blk_put (cs := #[.int .i64 0, .string (⟨#[]⟩ : ByteArray), .slice none 0 0, .int .i64 0, .int .i64 0, .slice none 0 0]) ?_ 0 _ rfl; refine sb_ ?_; exact BK107.out) hb); have n2_ := mk_ (below_step (be2_ HB GE105 GE107) hb); clear BK105; clear BK107; clear HB; have BK105 := n0_; have BK107 := n1_; have HB := n2_; clear n0_ n1_ n2_))
      go_roundg k1
      case measure => have := HK1.out; omega
      case rel => exact ⟨(ji8), (wrap64 (x9_1 + 1)), (by first | rfl | (simp; done) | (simp only [← hji8] <;> (first | rfl | simp)) | (simp [*]; done)), fi_, H', ⟨by have := HK1.out; omega⟩, ⟨bq_ BK105⟩, ⟨be2_ HB GE105 GE107⟩⟩
     ·rw [if_neg c6] at H
      exact absurd H (by simp)
    ·rw [if_neg c5] at H
     exact absurd H (by simp)
   ·rw [if_neg c4] at H
    have c4b0 : decide (x9_1 < (l0_5.length : Int)) = false := decide_eq_false c4
    clear c4
    obtain rfl := Option.some.inj H
    go_wp2
    go_ret
    exact ⟨er_, be1_ HB GE105⟩
def formula_limits.f (k : Nat) (a0_0 : Int) (a0_1 : ByteArray) (l0_2 : List (S92)) (a0_3 : Int) (a0_4 : Int) (l0_5 : List (S32)) : Option (Bool) := (formula_Size.f k a0_0 a0_1 l0_2 a0_3 a0_4 l0_5).bind fun t110 => (if t110 ≤ 200 then ((formula_Depth.f k a0_0 a0_1 l0_2 a0_3 a0_4 l0_5).bind fun t111 => (some (decide (t111 ≤ 32)))) else (some false))
theorem formula_limits.calls (k : Nat) (a0_0 : Int) (a0_1 : ByteArray) (A0_2 : Option Addr) (c0_2 : Nat) (l0_2 : List (S92)) (a0_3 : Int) (a0_4 : Int) (A0_5 : Option Addr) (c0_5 : Nat) (l0_5 : List (S32)) (r : Bool) (w : World) (hr0_2 : Kd.C k92 w A0_2 l0_2.length l0_2) (hc0_2 : l0_2.length ≤ c0_2) (hr0_5 : Kd.C k32 w A0_5 l0_5.length l0_5) (hc0_5 : l0_5.length ≤ c0_5) (h : formula_limits.f k a0_0 a0_1 l0_2 a0_3 a0_4 l0_5 = some r) :
  Calls Tryd.prog 64 #[.agg #[.int .i64 a0_0, .string a0_1, .slice A0_2 l0_2.length c0_2, .int .i64 a0_3, .int .i64 a0_4, .slice A0_5 l0_5.length c0_5]] w fun e w' => e = .returned (.bool r) ∧ Below w.heap.size w w' := by
 have hu32 := Tryd.underlying32
 have HR0_2 := mk_ hr0_2; have HC0_2 := mk_ hc0_2; clear hr0_2 hc0_2
 have HR0_5 := mk_ hr0_5; have HC0_5 := mk_ hc0_5; clear hr0_5 hc0_5
 have HB := mk_ (Below.refl w.heap.size w)
 have H : ((formula_Size.f k a0_0 a0_1 l0_2 a0_3 a0_4 l0_5).bind fun t110 => (if t110 ≤ 200 then ((formula_Depth.f k a0_0 a0_1 l0_2 a0_3 a0_4 l0_5).bind fun t111 => (some (decide (t111 ≤ 32)))) else (some false))) = some r := h
 clear h
 replace H := Option.bind_eq_some_iff.mp H
 obtain ⟨t110, A20, H⟩ := H
 replace H : (if t110 ≤ 200 then ((formula_Depth.f k a0_0 a0_1 l0_2 a0_3 a0_4 l0_5).bind fun t111 => (some (decide (t111 ≤ 32)))) else (some false)) = some r := H
 have A2 := mk_ A20
 clear A20
 by_cases c3 : t110 ≤ 200
 ·rw [if_pos c3] at H
  have c3b0 : decide (t110 ≤ 200) = true := decide_eq_true c3
  clear c3
  replace H := Option.bind_eq_some_iff.mp H
  obtain ⟨t111, A40, H⟩ := H
  replace H : (some (decide (t111 ≤ 32))) = some r := H
  have A4 := mk_ A40
  clear A40
  obtain rfl := Option.some.inj H
  go_enter Tryd.func64, Tryd.ntmps64
  go_wp2_with (first | ((with_reducible refine gate_dst (N := 1) rfl ?_); refine bx_ 1 #[.int .i64 a0_0, .string a0_1, .slice A0_2 l0_2.length c0_2, .int .i64 a0_3, .int .i64 a0_4, .slice A0_5 l0_5.length c0_5] 32 ?_; intro gb109 hg w5 hbox hb; have BK109 := mk_ (hbox); have GW109 := mk_ (gs_ hg (be_ HB)); have GE109 := mk_ (gs_ hg (be_ HB)); replace HB := mk_ (below_step (be_ HB) hb); clear hb hbox hg; obtain ⟨_, _, _, _, _, _, _, _, _, _, _, _⟩ := hb6_ BK109) | ((with_reducible refine gate_callee (f := 72) rfl ?_); refine gl_ (some 4) Tryd.func72 #[.agg #[.int .i64 a0_0, .string a0_1, .slice A0_2 l0_2.length c0_2, .int .i64 a0_3, .int .i64 a0_4, .slice A0_5 l0_5.length c0_5]] ?_; (with_reducible refine (formula_Size.calls k a0_0 a0_1 _ _ l0_2 a0_3 a0_4 _ _ l0_5 t110 _ ?side1 ?side2 ?side3 ?side4 A2.out).mono ?_); (case side1 => exact cs_ (Kd.C_below HR0_2.out HB.out)); (case side2 => exact HC0_2.out); (case side3 => exact cs_ (Kd.C_below HR0_5.out HB.out)); (case side4 => exact HC0_5.out); rintro e w7 ⟨rfl, hb⟩; refine ⟨_, rfl, ?_⟩; replace BK109 := mk_ (bb_ BK109 hb); replace HB := mk_ (below_step (be1_ HB GE109) hb); obtain ⟨_, _, _, _, _, _, _, _, _, _, _, _⟩ := hb6_ BK109) | (go_at_call 73; (with_reducible refine (formula_Depth.calls k a0_0 a0_1 _ _ l0_2 a0_3 a0_4 _ _ l0_5 t111 _ ?side1 ?side2 ?side3 ?side4 A4.out).mono ?_); (case side1 => exact cs_ (Kd.C_below HR0_2.out HB.out)); (case side2 => exact HC0_2.out); (case side3 => exact cs_ (Kd.C_below HR0_5.out HB.out)); (case side4 => exact HC0_5.out); rintro e w9 ⟨rfl, hb⟩; replace BK109 := mk_ (bb_ BK109 hb); replace HB := mk_ (below_step (be1_ HB GE109) hb)))
  go_ret
  exact ⟨er_, be1_ HB GE109⟩
 ·rw [if_neg c3] at H
  have c3b0 : decide (t110 ≤ 200) = false := decide_eq_false c3
  clear c3
  obtain rfl := Option.some.inj H
  go_enter Tryd.func64, Tryd.ntmps64
  go_wp2_with (first | ((with_reducible refine gate_dst (N := 1) rfl ?_); refine bx_ 1 #[.int .i64 a0_0, .string a0_1, .slice A0_2 l0_2.length c0_2, .int .i64 a0_3, .int .i64 a0_4, .slice A0_5 l0_5.length c0_5] 32 ?_; intro gb109 hg w10 hbox hb; have BK109 := mk_ (hbox); have GW109 := mk_ (gs_ hg (be_ HB)); have GE109 := mk_ (gs_ hg (be_ HB)); replace HB := mk_ (below_step (be_ HB) hb); clear hb hbox hg; obtain ⟨_, _, _, _, _, _, _, _, _, _, _, _⟩ := hb6_ BK109) | ((with_reducible refine gate_callee (f := 72) rfl ?_); refine gl_ (some 4) Tryd.func72 #[.agg #[.int .i64 a0_0, .string a0_1, .slice A0_2 l0_2.length c0_2, .int .i64 a0_3, .int .i64 a0_4, .slice A0_5 l0_5.length c0_5]] ?_; (with_reducible refine (formula_Size.calls k a0_0 a0_1 _ _ l0_2 a0_3 a0_4 _ _ l0_5 t110 _ ?side1 ?side2 ?side3 ?side4 A2.out).mono ?_); (case side1 => exact cs_ (Kd.C_below HR0_2.out HB.out)); (case side2 => exact HC0_2.out); (case side3 => exact cs_ (Kd.C_below HR0_5.out HB.out)); (case side4 => exact HC0_5.out); rintro e w12 ⟨rfl, hb⟩; refine ⟨_, rfl, ?_⟩; replace BK109 := mk_ (bb_ BK109 hb); replace HB := mk_ (below_step (be1_ HB GE109) hb)))
  go_ret
  exact ⟨er_, be1_ HB GE109⟩
def formula_binds.f (a0 : Int) : Option (Bool) := if a0 = 8 then (some true) else (some (a0 == 9))
theorem formula_binds.calls (a0 : Int) (r : Bool) (w : World) (h : formula_binds.f a0 = some r) :
  Calls Tryd.prog 75 #[.int .i64 a0] w fun e w' => e = .returned (.bool r) ∧ Drawn0 w w' := by
 have H : (if a0 = 8 then (some true) else (some (a0 == 9))) = some r := h
 clear h
 by_cases c2 : a0 = 8
 ·rw [if_pos c2] at H
  obtain ⟨c2b0, c2b1⟩ := eb_ c2
  clear c2
  obtain rfl := Option.some.inj H
  go_enter Tryd.func75, Tryd.ntmps75
  go_wp2
  go_ret
  exact ⟨by first | rfl | (simp [pw_isEmpty]; done) | (simp; done) | (simp [*]; done), by repeat (first | exact Drawn0.refl _ | apply Drawn0.step)⟩
 ·rw [if_neg c2] at H
  obtain ⟨c2b0, c2b1⟩ := en_ c2
  obtain rfl := Option.some.inj H
  go_enter Tryd.func75, Tryd.ntmps75
  go_wp2
  go_ret
  exact ⟨by first | rfl | (simp [pw_isEmpty]; done) | (simp; done) | (simp [*]; done), by repeat (first | exact Drawn0.refl _ | apply Drawn0.step)⟩
def formula_first.f (a0 : Int) : Option (Bool) := if a0 ≥ 97 then (some (decide (a0 ≤ 122))) else (some false)
theorem formula_first.calls (a0 : Int) (r : Bool) (w : World) (h : formula_first.f a0 = some r) :
  Calls Tryd.prog 88 #[.int .u8 a0] w fun e w' => e = .returned (.bool r) ∧ Drawn0 w w' := by
 have H : (if a0 ≥ 97 then (some (decide (a0 ≤ 122))) else (some false)) = some r := h
 clear h
 by_cases c2 : a0 ≥ 97
 ·rw [if_pos c2] at H
  have c2b0 : decide (97 ≤ a0) = true := decide_eq_true c2
  clear c2
  obtain rfl := Option.some.inj H
  go_enter Tryd.func88, Tryd.ntmps88
  go_wp2
  go_ret
  exact ⟨by first | rfl | (simp [pw_isEmpty]; done) | (simp; done) | (simp [*]; done), by repeat (first | exact Drawn0.refl _ | apply Drawn0.step)⟩
 ·rw [if_neg c2] at H
  have c2b0 : decide (97 ≤ a0) = false := decide_eq_false c2
  clear c2
  obtain rfl := Option.some.inj H
  go_enter Tryd.func88, Tryd.ntmps88
  go_wp2
  go_ret
  exact ⟨by first | rfl | (simp [pw_isEmpty]; done) | (simp; done) | (simp [*]; done), by repeat (first | exact Drawn0.refl _ | apply Drawn0.step)⟩
def formula_rest.f (a0 : Int) : Option (Bool) := (formula_first.f a0).bind fun t112 => (if t112 = true then (some true) else (if a0 ≥ 48 then (if a0 ≤ 57 then (some true) else (some (a0 == 45))) else (some (a0 == 45))))
theorem formula_rest.calls (a0 : Int) (r : Bool) (w : World) (h : formula_rest.f a0 = some r) :
  Calls Tryd.prog 87 #[.int .u8 a0] w fun e w' => e = .returned (.bool r) ∧ Drawn0 w w' := by
 have H : ((formula_first.f a0).bind fun t112 => (if t112 = true then (some true) else (if a0 ≥ 48 then (if a0 ≤ 57 then (some true) else (some (a0 == 45))) else (some (a0 == 45))))) = some r := h
 clear h
 replace H := Option.bind_eq_some_iff.mp H
 obtain ⟨t112, A20, H⟩ := H
 replace H : (if t112 = true then (some true) else (if a0 ≥ 48 then (if a0 ≤ 57 then (some true) else (some (a0 == 45))) else (some (a0 == 45)))) = some r := H
 have A2 := mk_ A20
 clear A20
 by_cases c3 : t112 = true
 ·subst c3
  rw [if_pos rfl] at H
  obtain rfl := Option.some.inj H
  go_enter Tryd.func87, Tryd.ntmps87
  go_wp2_with (first | ((with_reducible refine gate_callee (f := 88) rfl ?_); refine gl_ (some 4) Tryd.func88 #[.int .u8 a0] ?_; (with_reducible refine (formula_first.calls a0 true _ A2.out).mono ?_); rintro e w' ⟨rfl, ⟨nd, rfl⟩⟩; refine ⟨_, rfl, ?_⟩))
  go_ret
  exact ⟨by first | rfl | (simp [pw_isEmpty]; done) | (simp; done) | (simp [*]; done), by repeat (first | exact Drawn0.refl _ | apply Drawn0.step)⟩
 ·replace c3 := Bool.eq_false_iff.mpr c3
  subst c3
  rw [if_neg nf_] at H
  by_cases c4 : a0 ≥ 48
  ·rw [if_pos c4] at H
   have c4b0 : decide (48 ≤ a0) = true := decide_eq_true c4
   clear c4
   by_cases c5 : a0 ≤ 57
   ·rw [if_pos c5] at H
    have c5b0 : decide (a0 ≤ 57) = true := decide_eq_true c5
    clear c5
    obtain rfl := Option.some.inj H
    go_enter Tryd.func87, Tryd.ntmps87
    go_wp2_with (first | ((with_reducible refine gate_callee (f := 88) rfl ?_); refine gl_ (some 4) Tryd.func88 #[.int .u8 a0] ?_; (with_reducible refine (formula_first.calls a0 false _ A2.out).mono ?_); rintro e w' ⟨rfl, ⟨nd, rfl⟩⟩; refine ⟨_, rfl, ?_⟩))
    go_ret
    exact ⟨by first | rfl | (simp [pw_isEmpty]; done) | (simp; done) | (simp [*]; done), by repeat (first | exact Drawn0.refl _ | apply Drawn0.step)⟩
   ·rw [if_neg c5] at H
    have c5b0 : decide (a0 ≤ 57) = false := decide_eq_false c5
    clear c5
    obtain rfl := Option.some.inj H
    go_enter Tryd.func87, Tryd.ntmps87
    go_wp2_with (first | ((with_reducible refine gate_callee (f := 88) rfl ?_); refine gl_ (some 4) Tryd.func88 #[.int .u8 a0] ?_; (with_reducible refine (formula_first.calls a0 false _ A2.out).mono ?_); rintro e w' ⟨rfl, ⟨nd, rfl⟩⟩; refine ⟨_, rfl, ?_⟩))
    go_ret
    exact ⟨by first | rfl | (simp [pw_isEmpty]; done) | (simp; done) | (simp [*]; done), by repeat (first | exact Drawn0.refl _ | apply Drawn0.step)⟩
  ·rw [if_neg c4] at H
   have c4b0 : decide (48 ≤ a0) = false := decide_eq_false c4
   clear c4
   obtain rfl := Option.some.inj H
   go_enter Tryd.func87, Tryd.ntmps87
   go_wp2_with (first | ((with_reducible refine gate_callee (f := 88) rfl ?_); refine gl_ (some 4) Tryd.func88 #[.int .u8 a0] ?_; (with_reducible refine (formula_first.calls a0 false _ A2.out).mono ?_); rintro e w' ⟨rfl, ⟨nd, rfl⟩⟩; refine ⟨_, rfl, ?_⟩))
   go_ret
   exact ⟨by first | rfl | (simp [pw_isEmpty]; done) | (simp; done) | (simp [*]; done), by repeat (first | exact Drawn0.refl _ | apply Drawn0.step)⟩
def formula_symbol.l0 : Nat → ByteArray → Int → Option (Bool)
 | 0, _, _ => none
 | k + 1, x0, x3 => if x3 < (x0.size : Int) then (if 0 ≤ x3 then ((formula_rest.f (bt x0 x3)).bind fun t113 => (if t113 = true then (formula_symbol.l0 k x0 (wrap64 (x3 + 1))) else (some false))) else (none)) else (if x0.toList = ([] : List UInt8) then (some false) else (if 0 < (x0.size : Int) then ((formula_first.f (bt x0 0)).bind fun t114 => (some t114)) else (none)))
def formula_symbol.f (k : Nat) (a0 : ByteArray) : Option (Bool) := formula_symbol.l0 k a0 1
theorem formula_symbol.calls (k : Nat) (a0 : ByteArray) (r : Bool) (w : World) (h : formula_symbol.f k a0 = some r) :
  Calls Tryd.prog 82 #[.string a0] w fun e w' => e = .returned (.bool r) ∧ Drawn0 w w' := by
 have H : (formula_symbol.l0 k a0 1) = some r := h
 clear h
 have H' := mk_ H
 clear H
 go_enter Tryd.func82, Tryd.ntmps82
 go_wp2
 go_loopg [3] k (fun kq v3 w' => ∃ (x3_1 : Int), v3 = .int .i64 x3_1 ∧ Aside0 (formula_symbol.l0 kq a0 x3_1 = some r) ∧ Aside0 (kq ≤ k) ∧ Drawn0 w w')
 case atStart => exact ⟨(1), (by first | rfl | (simp; done) | (simp [*]; done) | (simp [pw_isEmpty]; done)), H', ⟨Nat.le_refl _⟩, by repeat (first | exact Drawn0.refl _ | apply Drawn0.step)⟩
 case round =>
  clear H'
  obtain ⟨x3_1, rfl, HA, HK1, ⟨m1, rfl⟩⟩ := hrel
  cases gk with
  | zero => exact absurd HA.out (by simp [formula_symbol.l0])
  | succ k1 =>
   have H := HA.out
   clear HA
   simp only [formula_symbol.l0] at H
   by_cases c2 : x3_1 < (a0.size : Int)
   ·rw [if_pos c2] at H
    have c2b0 : decide (x3_1 < (a0.size : Int)) = true := decide_eq_true c2
    clear c2
    by_cases c3 : 0 ≤ x3_1
    ·rw [if_pos c3] at H
     have c3b0 : decide (0 ≤ x3_1) = true := decide_eq_true c3
     clear c3
     replace H := Option.bind_eq_some_iff.mp H
     obtain ⟨t113, A50, H⟩ := H
     replace H : (if t113 = true then (formula_symbol.l0 k1 a0 (wrap64 (x3_1 + 1))) else (some false)) = some r := H
     have A5 := mk_ A50
     clear A50
     by_cases c6 : t113 = true
     ·subst c6
      rw [if_pos rfl] at H
      have H' := mk_ H
      clear H
      have p4 : 0 ≤ (x3_1 : Int) := of_decide_eq_true (by first | (with_reducible assumption) | assumption)
      have q4 : x3_1 < (a0.size : Int) := of_decide_eq_true (by first | (with_reducible assumption) | assumption)
      have hx4 := bt_at a0 x3_1
      replace p4 := eq_true p4
      replace q4 := eq_true q4
      go_wp2_with (first | ((with_reducible refine gate_callee (f := 87) rfl ?_); refine gl_ (some 13) Tryd.func87 #[.int .u8 (bt a0 x3_1)] ?_; (with_reducible refine (formula_rest.calls (bt a0 x3_1) true _ A5.out).mono ?_); rintro e w' ⟨rfl, ⟨nd, rfl⟩⟩; refine ⟨_, rfl, ?_⟩))
      go_roundg k1
      case measure => have := HK1.out; omega
      case rel => exact ⟨(wrap64 (x3_1 + 1)), (by first | rfl | (simp; done) | (simp [*]; done) | (simp [pw_isEmpty]; done)), H', ⟨by have := HK1.out; omega⟩, by repeat (first | exact Drawn0.refl _ | apply Drawn0.step)⟩
     ·replace c6 := Bool.eq_false_iff.mpr c6
      subst c6
      rw [if_neg nf_] at H
      obtain rfl := Option.some.inj H
      have p4 : 0 ≤ (x3_1 : Int) := of_decide_eq_true (by first | (with_reducible assumption) | assumption)
      have q4 : x3_1 < (a0.size : Int) := of_decide_eq_true (by first | (with_reducible assumption) | assumption)
      have hx4 := bt_at a0 x3_1
      replace p4 := eq_true p4
      replace q4 := eq_true q4
      go_wp2_with (first | ((with_reducible refine gate_callee (f := 87) rfl ?_); refine gl_ (some 13) Tryd.func87 #[.int .u8 (bt a0 x3_1)] ?_; (with_reducible refine (formula_rest.calls (bt a0 x3_1) false _ A5.out).mono ?_); rintro e w' ⟨rfl, ⟨nd, rfl⟩⟩; refine ⟨_, rfl, ?_⟩))
      go_ret
      exact ⟨by first | rfl | (simp [pw_isEmpty]; done) | (simp; done) | (simp [*]; done), by repeat (first | exact Drawn0.refl _ | apply Drawn0.step)⟩
    ·rw [if_neg c3] at H
     exact absurd H (by simp)
   ·rw [if_neg c2] at H
    have c2b0 : decide (x3_1 < (a0.size : Int)) = false := decide_eq_false c2
    clear c2
    by_cases c7 : a0.toList = ([] : List UInt8)
    ·rw [if_pos c7] at H
     obtain ⟨c7b0, c7b1⟩ := eb_ c7
     clear c7
     obtain rfl := Option.some.inj H
     go_wp2
     go_ret
     exact ⟨by first | rfl | (simp [pw_isEmpty]; done) | (simp; done) | (simp [*]; done), by repeat (first | exact Drawn0.refl _ | apply Drawn0.step)⟩
    ·rw [if_neg c7] at H
     obtain ⟨c7b0, c7b1⟩ := en_ c7
     by_cases c8 : 0 < (a0.size : Int)
     ·rw [if_pos c8] at H
      have c8b0 : decide (0 < (a0.size : Int)) = true := decide_eq_true c8
      have c8b1 : decide (0 < a0.size) = true := decide_eq_true (by omega)
      clear c8
      replace H := Option.bind_eq_some_iff.mp H
      obtain ⟨t114, A100, H⟩ := H
      replace H : (some t114) = some r := H
      have A10 := mk_ A100
      clear A100
      obtain rfl := Option.some.inj H
      have p9 : 0 ≤ (0 : Int) := (by omega)
      have q9 : 0 < a0.size := (by have : (0 : Int) < (a0.size : Int) := of_decide_eq_true (by first | (with_reducible assumption) | assumption); omega)
      have hx9 : ∀ h : 0 < a0.size, ((a0[0]'h).toNat : Int) = bt a0 0 := bt_at a0 0
      clear p9
      have qi9 : (0 < (a0.size : Int)) = True := eq_true (of_decide_eq_true (by first | (with_reducible assumption) | assumption))
      replace q9 := eq_true q9
      go_wp2_with (first | (go_at_call 88; (with_reducible refine (formula_first.calls (bt a0 0) t114 _ A10.out).mono ?_); rintro e w' ⟨rfl, ⟨nd, rfl⟩⟩))
      go_ret
      exact ⟨by first | rfl | (simp [pw_isEmpty]; done) | (simp; done) | (simp [*]; done), by repeat (first | exact Drawn0.refl _ | apply Drawn0.step)⟩
     ·rw [if_neg c8] at H
      exact absurd H (by simp)
def formula_reference.f (k : Nat) (a0_0 : Int) (a0_1 : Int) (a0_2 : ByteArray) (a1 : Int) : Option (Bool) := if a0_0 = 1 then (if a0_2.toList = ([] : List UInt8) then (if a0_1 ≥ 0 then (some (decide (a0_1 < a1))) else (some false)) else (some false)) else (if a0_0 = 2 then (if a0_1 = 0 then ((formula_symbol.f k a0_2).bind fun t116 => (some t116)) else (some false)) else (if a0_0 = 3 then (if a0_2.toList = ([] : List UInt8) then (if a0_1 ≥ 0 then (some (decide (a0_1 ≤ 1439999999))) else (some false)) else (some false)) else (if a0_0 = 4 then (if a0_2.toList = ([] : List UInt8) then (if a0_1 ≥ 0 then (some (decide (a0_1 ≤ 1099511627776))) else (some false)) else (some false)) else (some false))))
theorem formula_reference.calls (k : Nat) (a0_0 : Int) (a0_1 : Int) (a0_2 : ByteArray) (a1 : Int) (r : Bool) (w : World) (h : formula_reference.f k a0_0 a0_1 a0_2 a1 = some r) :
  Calls Tryd.prog 81 #[.agg #[.int .i64 a0_0, .int .i64 a0_1, .string a0_2], .int .i64 a1] w fun e w' => e = .returned (.bool r) ∧ Below w.heap.size w w' := by
 have hu92 := Tryd.underlying92
 have HB := mk_ (Below.refl w.heap.size w)
 have H : (if a0_0 = 1 then (if a0_2.toList = ([] : List UInt8) then (if a0_1 ≥ 0 then (some (decide (a0_1 < a1))) else (some false)) else (some false)) else (if a0_0 = 2 then (if a0_1 = 0 then ((formula_symbol.f k a0_2).bind fun t116 => (some t116)) else (some false)) else (if a0_0 = 3 then (if a0_2.toList = ([] : List UInt8) then (if a0_1 ≥ 0 then (some (decide (a0_1 ≤ 1439999999))) else (some false)) else (some false)) else (if a0_0 = 4 then (if a0_2.toList = ([] : List UInt8) then (if a0_1 ≥ 0 then (some (decide (a0_1 ≤ 1099511627776))) else (some false)) else (some false)) else (some false))))) = some r := h
 clear h
 by_cases c3 : a0_0 = 1
 ·rw [if_pos c3] at H
  obtain ⟨c3b0, c3b1⟩ := eb_ c3
  clear c3
  by_cases c4 : a0_2.toList = ([] : List UInt8)
  ·rw [if_pos c4] at H
   obtain ⟨c4b0, c4b1⟩ := eb_ c4
   clear c4
   by_cases c5 : a0_1 ≥ 0
   ·rw [if_pos c5] at H
    have c5b0 : decide (0 ≤ a0_1) = true := decide_eq_true c5
    clear c5
    obtain rfl := Option.some.inj H
    go_enter Tryd.func81, Tryd.ntmps81
    go_wp2_with (first | ((with_reducible refine gate_dst (N := 2) rfl ?_); refine bx_ 2 #[.int .i64 a0_0, .int .i64 a0_1, .string a0_2] 92 ?_; intro gb115 hg w6 hbox hb; have BK115 := mk_ (hbox); have GW115 := mk_ (gs_ hg (be_ HB)); have GE115 := mk_ (gs_ hg (be_ HB)); replace HB := mk_ (below_step (be_ HB) hb); clear hb hbox hg; obtain ⟨_, _, _, _, _, _⟩ := hb3_ BK115))
    go_ret
    exact ⟨er_, be1_ HB GE115⟩
   ·rw [if_neg c5] at H
    have c5b0 : decide (0 ≤ a0_1) = false := decide_eq_false c5
    clear c5
    obtain rfl := Option.some.inj H
    go_enter Tryd.func81, Tryd.ntmps81
    go_wp2_with (first | ((with_reducible refine gate_dst (N := 2) rfl ?_); refine bx_ 2 #[.int .i64 a0_0, .int .i64 a0_1, .string a0_2] 92 ?_; intro gb115 hg w8 hbox hb; have BK115 := mk_ (hbox); have GW115 := mk_ (gs_ hg (be_ HB)); have GE115 := mk_ (gs_ hg (be_ HB)); replace HB := mk_ (below_step (be_ HB) hb); clear hb hbox hg; obtain ⟨_, _, _, _, _, _⟩ := hb3_ BK115))
    go_ret
    exact ⟨er_, be1_ HB GE115⟩
  ·rw [if_neg c4] at H
   obtain ⟨c4b0, c4b1⟩ := en_ c4
   obtain rfl := Option.some.inj H
   go_enter Tryd.func81, Tryd.ntmps81
   go_wp2_with (first | ((with_reducible refine gate_dst (N := 2) rfl ?_); refine bx_ 2 #[.int .i64 a0_0, .int .i64 a0_1, .string a0_2] 92 ?_; intro gb115 hg w10 hbox hb; have BK115 := mk_ (hbox); have GW115 := mk_ (gs_ hg (be_ HB)); have GE115 := mk_ (gs_ hg (be_ HB)); replace HB := mk_ (below_step (be_ HB) hb); clear hb hbox hg; obtain ⟨_, _, _, _, _, _⟩ := hb3_ BK115))
   go_ret
   exact ⟨er_, be1_ HB GE115⟩
 ·rw [if_neg c3] at H
  obtain ⟨c3b0, c3b1⟩ := en_ c3
  by_cases c12 : a0_0 = 2
  ·rw [if_pos c12] at H
   obtain ⟨c12b0, c12b1⟩ := eb_ c12
   clear c12
   by_cases c13 : a0_1 = 0
   ·rw [if_pos c13] at H
    obtain ⟨c13b0, c13b1⟩ := eb_ c13
    clear c13
    replace H := Option.bind_eq_some_iff.mp H
    obtain ⟨t116, A140, H⟩ := H
    replace H : (some t116) = some r := H
    have A14 := mk_ A140
    clear A140
    obtain rfl := Option.some.inj H
    go_enter Tryd.func81, Tryd.ntmps81
    go_wp2_with (first | ((with_reducible refine gate_dst (N := 2) rfl ?_); refine bx_ 2 #[.int .i64 a0_0, .int .i64 a0_1, .string a0_2] 92 ?_; intro gb115 hg w15 hbox hb; have BK115 := mk_ (hbox); have GW115 := mk_ (gs_ hg (be_ HB)); have GE115 := mk_ (gs_ hg (be_ HB)); replace HB := mk_ (below_step (be_ HB) hb); clear hb hbox hg; obtain ⟨_, _, _, _, _, _⟩ := hb3_ BK115) | (go_at_call 82; (with_reducible refine (formula_symbol.calls k a0_2 t116 _ A14.out).mono ?_); rintro e w' ⟨rfl, ⟨nd, rfl⟩⟩))
    go_ret
    exact ⟨er_, be1_ HB GE115⟩
   ·rw [if_neg c13] at H
    obtain ⟨c13b0, c13b1⟩ := en_ c13
    obtain rfl := Option.some.inj H
    go_enter Tryd.func81, Tryd.ntmps81
    go_wp2_with (first | ((with_reducible refine gate_dst (N := 2) rfl ?_); refine bx_ 2 #[.int .i64 a0_0, .int .i64 a0_1, .string a0_2] 92 ?_; intro gb115 hg w17 hbox hb; have BK115 := mk_ (hbox); have GW115 := mk_ (gs_ hg (be_ HB)); have GE115 := mk_ (gs_ hg (be_ HB)); replace HB := mk_ (below_step (be_ HB) hb); clear hb hbox hg; obtain ⟨_, _, _, _, _, _⟩ := hb3_ BK115))
    go_ret
    exact ⟨er_, be1_ HB GE115⟩
  ·rw [if_neg c12] at H
   obtain ⟨c12b0, c12b1⟩ := en_ c12
   by_cases c19 : a0_0 = 3
   ·rw [if_pos c19] at H
    obtain ⟨c19b0, c19b1⟩ := eb_ c19
    clear c19
    by_cases c20 : a0_2.toList = ([] : List UInt8)
    ·rw [if_pos c20] at H
     obtain ⟨c20b0, c20b1⟩ := eb_ c20
     clear c20
     by_cases c21 : a0_1 ≥ 0
     ·rw [if_pos c21] at H
      have c21b0 : decide (0 ≤ a0_1) = true := decide_eq_true c21
      clear c21
      obtain rfl := Option.some.inj H
      go_enter Tryd.func81, Tryd.ntmps81
      go_wp2_with (first | ((with_reducible refine gate_dst (N := 2) rfl ?_); refine bx_ 2 #[.int .i64 a0_0, .int .i64 a0_1, .string a0_2] 92 ?_; intro gb115 hg w22 hbox hb; have BK115 := mk_ (hbox); have GW115 := mk_ (gs_ hg (be_ HB)); have GE115 := mk_ (gs_ hg (be_ HB)); replace HB := mk_ (below_step (be_ HB) hb); clear hb hbox hg; obtain ⟨_, _, _, _, _, _⟩ := hb3_ BK115))
      go_ret
      exact ⟨er_, be1_ HB GE115⟩
     ·rw [if_neg c21] at H
      have c21b0 : decide (0 ≤ a0_1) = false := decide_eq_false c21
      clear c21
      obtain rfl := Option.some.inj H
      go_enter Tryd.func81, Tryd.ntmps81
      go_wp2_with (first | ((with_reducible refine gate_dst (N := 2) rfl ?_); refine bx_ 2 #[.int .i64 a0_0, .int .i64 a0_1, .string a0_2] 92 ?_; intro gb115 hg w24 hbox hb; have BK115 := mk_ (hbox); have GW115 := mk_ (gs_ hg (be_ HB)); have GE115 := mk_ (gs_ hg (be_ HB)); replace HB := mk_ (below_step (be_ HB) hb); clear hb hbox hg; obtain ⟨_, _, _, _, _, _⟩ := hb3_ BK115))
      go_ret
      exact ⟨er_, be1_ HB GE115⟩
    ·rw [if_neg c20] at H
     obtain ⟨c20b0, c20b1⟩ := en_ c20
     obtain rfl := Option.some.inj H
     go_enter Tryd.func81, Tryd.ntmps81
     go_wp2_with (first | ((with_reducible refine gate_dst (N := 2) rfl ?_); refine bx_ 2 #[.int .i64 a0_0, .int .i64 a0_1, .string a0_2] 92 ?_; intro gb115 hg w26 hbox hb; have BK115 := mk_ (hbox); have GW115 := mk_ (gs_ hg (be_ HB)); have GE115 := mk_ (gs_ hg (be_ HB)); replace HB := mk_ (below_step (be_ HB) hb); clear hb hbox hg; obtain ⟨_, _, _, _, _, _⟩ := hb3_ BK115))
     go_ret
     exact ⟨er_, be1_ HB GE115⟩
   ·rw [if_neg c19] at H
    obtain ⟨c19b0, c19b1⟩ := en_ c19
    by_cases c28 : a0_0 = 4
    ·rw [if_pos c28] at H
     obtain ⟨c28b0, c28b1⟩ := eb_ c28
     clear c28
     by_cases c29 : a0_2.toList = ([] : List UInt8)
     ·rw [if_pos c29] at H
      obtain ⟨c29b0, c29b1⟩ := eb_ c29
      clear c29
      by_cases c30 : a0_1 ≥ 0
      ·rw [if_pos c30] at H
       have c30b0 : decide (0 ≤ a0_1) = true := decide_eq_true c30
       clear c30
       obtain rfl := Option.some.inj H
       go_enter Tryd.func81, Tryd.ntmps81
       go_wp2_with (first | ((with_reducible refine gate_dst (N := 2) rfl ?_); refine bx_ 2 #[.int .i64 a0_0, .int .i64 a0_1, .string a0_2] 92 ?_; intro gb115 hg w31 hbox hb; have BK115 := mk_ (hbox); have GW115 := mk_ (gs_ hg (be_ HB)); have GE115 := mk_ (gs_ hg (be_ HB)); replace HB := mk_ (below_step (be_ HB) hb); clear hb hbox hg; obtain ⟨_, _, _, _, _, _⟩ := hb3_ BK115))
       go_ret
       exact ⟨er_, be1_ HB GE115⟩
      ·rw [if_neg c30] at H
       have c30b0 : decide (0 ≤ a0_1) = false := decide_eq_false c30
       clear c30
       obtain rfl := Option.some.inj H
       go_enter Tryd.func81, Tryd.ntmps81
       go_wp2_with (first | ((with_reducible refine gate_dst (N := 2) rfl ?_); refine bx_ 2 #[.int .i64 a0_0, .int .i64 a0_1, .string a0_2] 92 ?_; intro gb115 hg w33 hbox hb; have BK115 := mk_ (hbox); have GW115 := mk_ (gs_ hg (be_ HB)); have GE115 := mk_ (gs_ hg (be_ HB)); replace HB := mk_ (below_step (be_ HB) hb); clear hb hbox hg; obtain ⟨_, _, _, _, _, _⟩ := hb3_ BK115))
       go_ret
       exact ⟨er_, be1_ HB GE115⟩
     ·rw [if_neg c29] at H
      obtain ⟨c29b0, c29b1⟩ := en_ c29
      obtain rfl := Option.some.inj H
      go_enter Tryd.func81, Tryd.ntmps81
      go_wp2_with (first | ((with_reducible refine gate_dst (N := 2) rfl ?_); refine bx_ 2 #[.int .i64 a0_0, .int .i64 a0_1, .string a0_2] 92 ?_; intro gb115 hg w35 hbox hb; have BK115 := mk_ (hbox); have GW115 := mk_ (gs_ hg (be_ HB)); have GE115 := mk_ (gs_ hg (be_ HB)); replace HB := mk_ (below_step (be_ HB) hb); clear hb hbox hg; obtain ⟨_, _, _, _, _, _⟩ := hb3_ BK115))
      go_ret
      exact ⟨er_, be1_ HB GE115⟩
    ·rw [if_neg c28] at H
     obtain ⟨c28b0, c28b1⟩ := en_ c28
     obtain rfl := Option.some.inj H
     go_enter Tryd.func81, Tryd.ntmps81
     go_wp2_with (first | ((with_reducible refine gate_dst (N := 2) rfl ?_); refine bx_ 2 #[.int .i64 a0_0, .int .i64 a0_1, .string a0_2] 92 ?_; intro gb115 hg w37 hbox hb; have BK115 := mk_ (hbox); have GW115 := mk_ (gs_ hg (be_ HB)); have GE115 := mk_ (gs_ hg (be_ HB)); replace HB := mk_ (below_step (be_ HB) hb); clear hb hbox hg; obtain ⟨_, _, _, _, _, _⟩ := hb3_ BK115))
     go_ret
     exact ⟨er_, be1_ HB GE115⟩
def formula_moment.f (a0 : Int) : Option (Bool) := if a0 ≥ (-1) then (some (decide (a0 ≤ 1439999999))) else (some false)
theorem formula_moment.calls (a0 : Int) (r : Bool) (w : World) (h : formula_moment.f a0 = some r) :
  Calls Tryd.prog 83 #[.int .i64 a0] w fun e w' => e = .returned (.bool r) ∧ Drawn0 w w' := by
 have H : (if a0 ≥ (-1) then (some (decide (a0 ≤ 1439999999))) else (some false)) = some r := h
 clear h
 by_cases c2 : a0 ≥ (-1)
 ·rw [if_pos c2] at H
  have c2b0 : decide ((-1) ≤ a0) = true := decide_eq_true c2
  clear c2
  obtain rfl := Option.some.inj H
  go_enter Tryd.func83, Tryd.ntmps83
  go_wp2
  go_ret
  exact ⟨by first | rfl | (simp [pw_isEmpty]; done) | (simp; done) | (simp [*]; done), by repeat (first | exact Drawn0.refl _ | apply Drawn0.step)⟩
 ·rw [if_neg c2] at H
  have c2b0 : decide ((-1) ≤ a0) = false := decide_eq_false c2
  clear c2
  obtain rfl := Option.some.inj H
  go_enter Tryd.func83, Tryd.ntmps83
  go_wp2
  go_ret
  exact ⟨by first | rfl | (simp [pw_isEmpty]; done) | (simp; done) | (simp [*]; done), by repeat (first | exact Drawn0.refl _ | apply Drawn0.step)⟩
end Go.Proofs.YtolpckflofjfhaaDoor.P
