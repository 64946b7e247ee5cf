-- Written by the session's own program wip/tools/xprint.py out of the translation, with the kit's print.py on a scratch copy; functions given by hand stand among them.
import Derived.Test.YtfampmajmbediaaPx0
import Derived.Test.YtfampmajmbediaaPx7
import Derived.Test.YtfampmajmbediaaPx10
namespace Go.Proofs.Ytfampmajmbediaa.P
open Go.RowKit Go.Proofs.YtfampmajmbediaaW.PrintWords Go.Proofs.YtfampmajmbediaaW.PrintLast Go.Proofs.YtfampmajmbediaaW.PrintMore
attribute [local go_sem] max2_int min2_int max_two min_two max_three min_three max_four min_four   -- for this text's walks alone
set_option linter.unusedVariables false
set_option linter.unusedSimpArgs false

/-! ### pentaglotref31_SameAll: function 19, by hand -/
-- leans on 15
def pentaglotref31_SameAll.f (l0 : List S27) (l1 : List S27) : Option Bool := some (sameBL l0 l1)
set_option maxHeartbeats 16000000 in
set_option maxRecDepth 100000 in
theorem pentaglotref31_SameAll.calls (A0 : Option Addr) (c0 : Nat) (l0 : List S27) (A1 : Option Addr) (c1 : Nat) (l1 : List S27) (r : Bool) (w : World) (hr0 : Kd.C k27 w A0 l0.length l0) (hc0 : l0.length ≤ c0) (hr1 : Kd.C k27 w A1 l1.length l1) (hc1 : l1.length ≤ c1) (h : pentaglotref31_SameAll.f l0 l1 = some r) :
  Calls Try.prog 19 #[.slice A0 l0.length c0, .slice A1 l1.length c1] w fun e w' => e = .returned (.bool r) ∧ Below w.heap.size w w' := by
 obtain rfl := Option.some.inj h
 clear h
 have hu27 := Try.underlying27
 have hm1 : l0.length ≤ 9223372036854775807 := hr0.2.1
 have HR0 := Aside0.mk hr0
 have HR1 := Aside0.mk hr1
 clear hr0 hr1
 by_cases hl : l0.length = l1.length
 case neg =>
  have hb1 : ((l0.length : Int) != (l1.length : Int)) = true := by simp; omega
  have hc2 : sameBL l0 l1 = false := by
   cases hs : sameBL l0 l1
   ·rfl
   ·exact absurd (sameBL_len _ _ hs) hl
  clear hl
  go_enter Try.func19, Try.ntmps19
  go_wp2
  go_ret
  exact ⟨by rw [hc2]; rfl, Below.refl _ _⟩
 have hb1 : ((l0.length : Int) != (l1.length : Int)) = false := by simp; omega
 have HL := Aside0.mk hl
 clear hl
 go_enter Try.func19, Try.ntmps19
 go_wp2
 go_loopw [5] (fun v5 wr => ∃ j : Nat, v5 = .int .i64 (j : Int) ∧ Aside0 (j ≤ l0.length) ∧ Aside0 (sameBL l0 l1 = sameBL (l0.drop j) (l1.drop j)) ∧ Aside0 (Below w.heap.size w wr)) (fun v5 _ => l0.length - (intOf v5).toNat)
 case atStart => exact ⟨0, rfl, ⟨Nat.zero_le _⟩, ⟨by rw [List.drop_zero, List.drop_zero]⟩, ⟨Below.refl _ _⟩⟩
 case round =>
  obtain ⟨j, rfl, HJ, HP, HQ⟩ := hrel
  by_cases hj : j < l0.length
  case neg =>
   have hj2 : ¬ (j : Int) < (l0.length : Int) := by omega
   have he : sameBL l0 l1 = true := by
    have hl := HL.out
    rw [HP.out, List.drop_of_length_le (by omega), List.drop_of_length_le (by omega)]
    rfl
   have HE := Aside0.mk he
   clear he
   go_wp2
   go_ret
   exact ⟨by rw [HE.out]; rfl, HQ.out⟩
  case pos =>
   have hj' : j < l1.length := by have := HL.out; omega
   have hj0 : (0 : Int) ≤ (j : Int) := Int.natCast_nonneg _
   have hj2 : (j : Int) < (l0.length : Int) := by omega
   have hj3 : (j : Int) < (l1.length : Int) := by omega
   obtain ⟨ad, X1, p1, X2, p2, rfl, k0, k1, k2, g1, g1', g2, g2'⟩ := at_T27 (Kd.C_below HR0.out HQ.out) (j : Int) hj0 hj2
   obtain ⟨ad2, Y1, q1, Y2, q2, rfl, m0, m1, m2, f1, f1', f2, f2'⟩ := at_T27 (Kd.C_below HR1.out HQ.out) (j : Int) hj0 hj3
   simp only [Int.toNat_natCast] at k0 k1 k2 m0 m1 m2
   obtain ⟨x, hx⟩ : ∃ x, rd_T27 l0 (j : Int) = x := ⟨_, rfl⟩
   obtain ⟨y, hy⟩ : ∃ y, rd_T27 l1 (j : Int) = y := ⟨_, rfl⟩
   rw [hx] at k0 k1 k2 g1 g1' g2 g2'
   rw [hy] at m0 m1 m2 f1 f1' f2 f2'
   have hxe : l0[j] = x := by rw [← hx]; unfold rd_T27; rw [Int.toNat_natCast, List.getD_eq_getElem?_getD, List.getElem?_eq_getElem hj]; rfl
   have hye : l1[j] = y := by rw [← hy]; unfold rd_T27; rw [Int.toNat_natCast, List.getD_eq_getElem?_getD, List.getElem?_eq_getElem hj']; rfl
   obtain ⟨q, hq⟩ : ∃ q, sameB x y = q := ⟨_, rfl⟩
   have hs := HP.out
   rw [List.drop_eq_getElem_cons hj, List.drop_eq_getElem_cons hj', hxe, hye, sameBL, hq] at hs
   have HS := Aside0.mk hs
   have HCALL := Aside0.mk (fun (V : World) (hb : Below wr.heap.size wr V) => hq ▸ same31_any (SizeOf.sizeOf x + 1) x y V X1 p1 X2 p2 Y1 q1 Y2 q2 (Nat.lt_succ_self _) (Kd.C_below g1' hb) g1 (Kd.C_below g2' hb) g2 (Kd.C_below f1' hb) f1 (Kd.C_below f2' hb) f2)
   have K0 := Aside0.mk k0
   have K1 := Aside0.mk k1
   have K2 := Aside0.mk k2
   have M0 := Aside0.mk m0
   have M1 := Aside0.mk m1
   have M2 := Aside0.mk m2
   have HJJ := Aside0.mk hj
   have HBD := Aside0.mk (below_drew (Below.refl wr.heap.size wr))
   clear k0 k1 k2 m0 m1 m2 g1 g1' g2 g2' f1 f1' f2 f2' hx hy hxe hye hs hq HP HJ
   go_wp2
   refine start_ (n := 10) (S := fun w' => w'.cell? (ad.add (j * 3)) = some (.string x.f0) ∧ w'.cell? ⟨(ad.add (j * 3)).block, (ad.add (j * 3)).off + 1, none⟩ = some (.slice X1 x.f1.length p1) ∧ w'.cell? ⟨(ad.add (j * 3)).block, (ad.add (j * 3)).off + 2, none⟩ = some (.slice X2 x.f2.length p2) ∧ w'.cell? (ad2.add (j * 3)) = some (.string y.f0) ∧ w'.cell? ⟨(ad2.add (j * 3)).block, (ad2.add (j * 3)).off + 1, none⟩ = some (.slice Y1 y.f1.length q1) ∧ w'.cell? ⟨(ad2.add (j * 3)).block, (ad2.add (j * 3)).off + 2, none⟩ = some (.slice Y2 y.f2.length q2)) (ds := []) #[false, false, false, false, false, false, false, false, false, false] (by kernel_rfl) rfl rfl ⟨(HBD.out.cell (World.block_lt_of_cell? _ _ K0.out)).trans K0.out, (HBD.out.cell (World.block_lt_of_cell? _ _ K1.out)).trans K1.out, (HBD.out.cell (World.block_lt_of_cell? _ _ K2.out)).trans K2.out, (HBD.out.cell (World.block_lt_of_cell? _ _ M0.out)).trans M0.out, (HBD.out.cell (World.block_lt_of_cell? _ _ M1.out)).trans M1.out, (HBD.out.cell (World.block_lt_of_cell? _ _ M2.out)).trans M2.out⟩ (fun hHeld => ?_)
   generalize wr.drew = A1 at HBD hHeld ⊢
   refine pu_ 0 (some 17) ?_
   refine pu_ 1 (some 18) ?_
   refine pu_ 2 (some 19) ?_
   refine tk_ 3 (some 20) hHeld ?_
   refine pu_ 4 (some 21) ?_
   refine pu_ 5 (some 22) ?_
   refine pu_ 6 (some 23) ?_
   refine tk_ 7 (some 24) hHeld ?_
   refine on_ 8 (some 25) (fun K hK => ?_)
   refine go_ Try.func15 #[.agg #[.string x.f0, .slice X1 x.f1.length p1, .slice X2 x.f2.length p2], .agg #[.string y.f0, .slice Y1 y.f1.length q1, .slice Y2 y.f2.length q2]] ?_
   refine (HCALL.out _ HBD.out).mono ?_
   rintro e w9 ⟨rfl, hz⟩
   refine ⟨_, rfl, ?_⟩
   have HZ := Aside0.mk (HBD.out.trans (hz.mono HBD.out.size))
   clear hz
   refine hK.out _ _ ⟨(HZ.out.cell (World.block_lt_of_cell? _ _ K0.out)).trans K0.out, (HZ.out.cell (World.block_lt_of_cell? _ _ K1.out)).trans K1.out, (HZ.out.cell (World.block_lt_of_cell? _ _ K2.out)).trans K2.out, (HZ.out.cell (World.block_lt_of_cell? _ _ M0.out)).trans M0.out, (HZ.out.cell (World.block_lt_of_cell? _ _ M1.out)).trans M1.out, (HZ.out.cell (World.block_lt_of_cell? _ _ M2.out)).trans M2.out⟩ (fun hHeld => ?_)
   clear hK K
   refine no_ (N := some 25) ?_
   refine pu_ 9 (some 26) ?_
   refine done_ (by kernel_rfl) ?_
   cases q with
   | true =>
    go_wp2
    go_roundw
    case rel => exact ⟨j + 1, by go_num, ⟨HJJ.out⟩, ⟨by rw [HS.out, Bool.true_and]⟩, ⟨HQ.out.trans (HZ.out.mono HQ.out.size)⟩⟩
    case measure => simp [intOf]; omega
   | false =>
    go_wp2
    go_ret
    exact ⟨by rw [HS.out]; rfl, HQ.out.trans (HZ.out.mono HQ.out.size)⟩

-- NOT PRINTED: function 62 (api_Tree_62)

/-! ### abstract_Same: function 51, by hand -/
-- leans on 44
mutual
def sameO (k : Nat) : S27 → S27 → Option Bool
 | ⟨a, b, c⟩, u => if a.toList = u.f0.toList then (slices_Equal_int_int.f k b u.f1).bind fun e => if e = true then (if c.length = u.f2.length then sameLO k c u.f2 else some false) else some false else some false
def sameLO (k : Nat) : List S27 → List S27 → Option Bool
 | [], _ => some true
 | _ :: _, [] => none
 | x :: xs, y :: ys => (sameO k x y).bind fun e => if e = true then sameLO k xs ys else some false
end
mutual
theorem sameO_mono (k : Nat) : ∀ (t u : S27), LeO (sameO k t u) (sameO (k + 1) t u)
 | ⟨a, b, c⟩, u => by
  unfold sameO
  exact LeO.ite (LeO.bind (slices_Equal_int_int.mono _ _ _) (fun e => LeO.ite (LeO.ite (sameLO_mono k c u.f2) (LeO.refl _)) (LeO.refl _))) (LeO.refl _)
theorem sameLO_mono (k : Nat) : ∀ (l m : List S27), LeO (sameLO k l m) (sameLO (k + 1) l m)
 | [], m => by unfold sameLO; exact LeO.refl _
 | _ :: _, [] => by unfold sameLO; exact LeO.refl _
 | x :: xs, y :: ys => by
  unfold sameLO
  exact LeO.bind (sameO_mono k x y) (fun e => LeO.ite (sameLO_mono k xs ys) (LeO.refl _))
end
def abstract_Same.f (k : Nat) (a0_0 : ByteArray) (l0_1 : List Int) (l0_2 : List S27) (a1_0 : ByteArray) (l1_1 : List Int) (l1_2 : List S27) : Option Bool := sameO k ⟨a0_0, l0_1, l0_2⟩ ⟨a1_0, l1_1, l1_2⟩
theorem abstract_Same.mono (a0 : ByteArray) (a1 : List Int) (a2 : List S27) (a3 : ByteArray) (a4 : List Int) (a5 : List S27) (k : Nat) : LeO (abstract_Same.f k a0 a1 a2 a3 a4 a5) (abstract_Same.f (k + 1) a0 a1 a2 a3 a4 a5) := sameO_mono k _ _
set_option maxHeartbeats 8000000 in
set_option maxRecDepth 100000 in
theorem equalFunc_any (k : Nat) (l1 l2 : List S27) (A1 : Option Addr) (c1 : Nat) (A2 : Option Addr) (c2 : Nat) (r : Bool) (w : World) (hr1 : Kd.C k27 w A1 l1.length l1) (hr2 : Kd.C k27 w A2 l2.length l2)
  (hP : ∀ x ∈ l1, ∀ (y : S27) (rr : Bool) (W : World) (X1 : Option Addr) (d1 : Nat) (X2 : Option Addr) (d2 : Nat) (Y1 : Option Addr) (e1 : Nat) (Y2 : Option Addr) (e2 : Nat), sameO k x y = some rr → Kd.C (Kd.int .i64) W X1 x.f1.length x.f1 → x.f1.length ≤ d1 → Kd.C k27 W X2 x.f2.length x.f2 → x.f2.length ≤ d2 →
   Kd.C (Kd.int .i64) W Y1 y.f1.length y.f1 → y.f1.length ≤ e1 → Kd.C k27 W Y2 y.f2.length y.f2 → y.f2.length ≤ e2 →
   Calls Try.prog 51 #[.agg #[.string x.f0, .slice X1 x.f1.length d1, .slice X2 x.f2.length d2], .agg #[.string y.f0, .slice Y1 y.f1.length e1, .slice Y2 y.f2.length e2]] W fun e w' => e = .returned (.bool rr) ∧ Below W.heap.size W w')
  (h : (if l1.length = l2.length then sameLO k l1 l2 else some false) = some r) :
  Calls Try.prog 62 #[.slice A1 l1.length c1, .slice A2 l2.length c2, .func (.func 51) #[] #[]] w fun e w' => e = .returned (.bool r) ∧ Below w.heap.size w w' := by
 have hu27 := Try.underlying27
 have hm1 : l1.length ≤ 9223372036854775807 := hr1.2.1
 by_cases hl : l1.length = l2.length
 case neg =>
  rw [if_neg hl] at h
  obtain rfl := Option.some.inj h
  have hne : ((l1.length : Int) != (l2.length : Int)) = true := by simp; omega
  have hne2 : ((l1.length : Int) == (l2.length : Int)) = false := by simp; omega
  clear hP hr1 hr2 h
  go_enter Try.func62, Try.ntmps62
  go_wp2
  go_ret
  exact ⟨rfl, Below.refl _ _⟩
 rw [if_pos hl] at h
 have HP := Aside0.mk hP
 have HR1 := Aside0.mk hr1
 have HR2 := Aside0.mk hr2
 have HL := Aside0.mk hl
 have HH := Aside0.mk h
 rw [← hl]
 clear hP hr1 hr2 hl h
 go_enter Try.func62, Try.ntmps62
 go_wp2
 go_loopw [17] (fun v17 wr => ∃ j : Nat, v17 = .int .i64 (j : Int) ∧ Aside0 (j ≤ l1.length) ∧ Aside0 (sameLO k (l1.drop j) (l2.drop j) = some r) ∧ Aside0 (Below w.heap.size w wr)) (fun v17 _ => l1.length - (intOf v17).toNat)
 case atStart => exact ⟨0, rfl, ⟨Nat.zero_le _⟩, ⟨by rw [List.drop_zero, List.drop_zero]; exact HH.out⟩, ⟨Below.refl _ _⟩⟩
 case round =>
  clear HH
  obtain ⟨j, rfl, HJL, HS, HB⟩ := hrel
  by_cases hj : j < l1.length
  case neg =>
   go_wp2
   go_ret
   have hs := HS.out
   have hjl := HJL.out
   rw [List.drop_of_length_le (by omega), sameLO] at hs
   exact ⟨by rw [← Option.some.inj hs]; rfl, HB.out⟩
  have hj2 : j < l2.length := by have := HL.out; omega
  have hj0 : (0 : Int) ≤ (j : Int) := Int.natCast_nonneg _
  obtain ⟨ad, X1, d1, X2, d2, hA1, k0, k1, k2, q1, g1, q2, g2⟩ := at_T27 (Kd.C_below HR1.out HB.out) (j : Int) hj0 (by omega)
  obtain ⟨ad2, Y1, e1, Y2, e2, hA2, m0, m1, m2, p1, f1, p2, f2⟩ := at_T27 (Kd.C_below HR2.out HB.out) (j : Int) hj0 (by omega)
  simp only [Int.toNat_natCast] at k0 k1 k2 m0 m1 m2
  obtain ⟨x, hx⟩ : ∃ x, rd_T27 l1 (j : Int) = x := ⟨_, rfl⟩
  obtain ⟨y, hy⟩ : ∃ y, rd_T27 l2 (j : Int) = y := ⟨_, rfl⟩
  rw [hx] at k0 k1 k2 q1 g1 q2 g2
  rw [hy] at m0 m1 m2 p1 f1 p2 f2
  have hxe : l1[j] = x := by rw [← hx]; unfold rd_T27; rw [Int.toNat_natCast, List.getD_eq_getElem?_getD, List.getElem?_eq_getElem hj]; rfl
  have hye : l2[j] = y := by rw [← hy]; unfold rd_T27; rw [Int.toNat_natCast, List.getD_eq_getElem?_getD, List.getElem?_eq_getElem hj2]; rfl
  have hs := HS.out
  rw [List.drop_eq_getElem_cons hj, List.drop_eq_getElem_cons hj2, hxe, hye, sameLO] at hs
  obtain ⟨rr, hrr, hs2⟩ := Option.bind_eq_some_iff.1 hs
  have hmem : x ∈ l1 := hxe ▸ List.getElem_mem hj
  have hcall := fun (W : World) (hW : Below wr.heap.size wr W) => HP.out x hmem y rr W X1 d1 X2 d2 Y1 e1 Y2 e2 hrr (Kd.C_below g1 hW) q1 (Kd.C_below g2 hW) q2 (Kd.C_below f1 hW) p1 (Kd.C_below f2 hW) p2
  have HCALL := Aside0.mk hcall
  have HS2 := Aside0.mk hs2
  subst hA1 hA2
  have hj1 : (j : Int) < (l1.length : Int) := by omega
  have hj3 : (j : Int) < (l2.length : Int) := by omega
  have m0' := ((below_alloc (Below.refl wr.heap.size wr) (.cells #[.string x.f0, .slice X1 x.f1.length d1, .slice X2 x.f2.length d2] 27)).cell (World.block_lt_of_cell? _ _ m0)).trans m0
  have m1' := ((below_alloc (Below.refl wr.heap.size wr) (.cells #[.string x.f0, .slice X1 x.f1.length d1, .slice X2 x.f2.length d2] 27)).cell (World.block_lt_of_cell? _ _ m1)).trans m1
  have m2' := ((below_alloc (Below.refl wr.heap.size wr) (.cells #[.string x.f0, .slice X1 x.f1.length d1, .slice X2 x.f2.length d2] 27)).cell (World.block_lt_of_cell? _ _ m2)).trans m2
  clear hcall hs hs2 hrr hmem hxe hye hx hy q1 g1 q2 g2 p1 f1 p2 f2
  cases rr with
  | false =>
   have hs3 := HS2.out
   rw [if_neg (by decide)] at hs3
   obtain rfl := Option.some.inj hs3
   clear HS2 HS hs3
   go_wp2_with ((with_reducible refine (HCALL.out _ (below_alloc (below_alloc (Below.refl _ _) _) _)).mono ?_); rintro e w3 ⟨rfl, hb3⟩; have HB3 := Aside0.mk (HB.out.trans ((below_alloc (below_alloc (Below.refl wr.heap.size wr) (.cells #[.string x.f0, .slice X1 x.f1.length d1, .slice X2 x.f2.length d2] 27)) (.cells #[.string y.f0, .slice Y1 y.f1.length e1, .slice Y2 y.f2.length e2] 27)).trans (hb3.mono (by simp; omega)) |>.mono HB.out.size)); clear hb3)
   go_ret
   exact ⟨rfl, HB3.out⟩
  | true =>
   have hs3 := HS2.out
   rw [if_pos rfl] at hs3
   have HS3 := Aside0.mk hs3
   clear HS2 HS hs3
   go_wp2_with ((with_reducible refine (HCALL.out _ (below_alloc (below_alloc (Below.refl _ _) _) _)).mono ?_); rintro e w3 ⟨rfl, hb3⟩; have HB3 := Aside0.mk (HB.out.trans ((below_alloc (below_alloc (Below.refl wr.heap.size wr) (.cells #[.string x.f0, .slice X1 x.f1.length d1, .slice X2 x.f2.length d2] 27)) (.cells #[.string y.f0, .slice Y1 y.f1.length e1, .slice Y2 y.f2.length e2] 27)).trans (hb3.mono (by simp; omega)) |>.mono HB.out.size)); clear hb3)
   go_roundw
   case rel => exact ⟨j + 1, by go_num, ⟨by omega⟩, HS3, HB3⟩
   case measure => simp [intOf]; omega
set_option maxHeartbeats 8000000 in
set_option maxRecDepth 100000 in
theorem same_any (k : Nat) : ∀ (n : Nat) (x y : S27) (r : Bool) (W : World) (X1 : Option Addr) (d1 : Nat) (X2 : Option Addr) (d2 : Nat) (Y1 : Option Addr) (e1 : Nat) (Y2 : Option Addr) (e2 : Nat), SizeOf.sizeOf x < n → sameO k x y = some r → Kd.C (Kd.int .i64) W X1 x.f1.length x.f1 → x.f1.length ≤ d1 → Kd.C k27 W X2 x.f2.length x.f2 → x.f2.length ≤ d2 →
   Kd.C (Kd.int .i64) W Y1 y.f1.length y.f1 → y.f1.length ≤ e1 → Kd.C k27 W Y2 y.f2.length y.f2 → y.f2.length ≤ e2 →
   Calls Try.prog 51 #[.agg #[.string x.f0, .slice X1 x.f1.length d1, .slice X2 x.f2.length d2], .agg #[.string y.f0, .slice Y1 y.f1.length e1, .slice Y2 y.f2.length e2]] W fun e w' => e = .returned (.bool r) ∧ Below W.heap.size W w' := by
 intro n
 induction n with
 | zero => intro x y r W X1 d1 X2 d2 Y1 e1 Y2 e2 hn; exact absurd hn (Nat.not_lt_zero _)
 | succ n ih =>
 intro x y r W X1 d1 X2 d2 Y1 e1 Y2 e2 hn h g1 q1 g2 q2 f1 p1 f2 p2
 obtain ⟨a, b, c⟩ := x
 obtain ⟨a', b', c'⟩ := y
 dsimp only at g1 q1 g2 q2 f1 p1 f2 p2 ⊢
 rw [sameO] at h
 dsimp only at h
 have hu27 := Try.underlying27
 have hbb := below_alloc (below_alloc (Below.refl W.heap.size W) (.cells #[.string a, .slice X1 b.length d1, .slice X2 c.length d2] 27)) (.cells #[.string a', .slice Y1 b'.length e1, .slice Y2 c'.length e2] 27)
 by_cases ha : a.toList = a'.toList
 case neg =>
  rw [if_neg ha] at h
  obtain rfl := Option.some.inj h
  have hab : (a.toList == a'.toList) = false := by simp [ha]
  have HBB := Aside0.mk hbb
  clear ih h ha g1 g2 f1 f2 hbb
  go_enter Try.func51, Try.ntmps51
  go_wp2
  go_ret
  exact ⟨rfl, HBB.out⟩
 rw [if_pos ha] at h
 have hab : (a.toList == a'.toList) = true := by simp [ha]
 obtain ⟨e0, he, h⟩ := Option.bind_eq_some_iff.1 h
 have a44 := slices_Equal_int_int.calls k X1 d1 b Y1 e1 b' e0 _ (Kd.C_below g1 hbb) q1 (Kd.C_below f1 hbb) p1 he
 cases e0 with
 | false =>
  rw [if_neg (by decide)] at h
  obtain rfl := Option.some.inj h
  have HBB := Aside0.mk hbb
  have HA := Aside0.mk a44
  clear ih h ha g1 g2 f1 f2 hbb a44 he
  go_enter Try.func51, Try.ntmps51
  go_wp2_with ((with_reducible refine HA.out.mono ?_); rintro e w3 ⟨rfl, ⟨nd, rfl⟩⟩)
  go_ret
  exact ⟨rfl, pw_below_drewN HBB.out nd⟩
 | true =>
  rw [if_pos rfl] at h
  have a62 := fun (nd : Nat) => equalFunc_any k c c' X2 d2 Y2 e2 r _ (Kd.C_below g2 (pw_below_drewN hbb nd)) (Kd.C_below f2 (pw_below_drewN hbb nd)) (fun x hx y rr W X1 d1 X2 d2 Y1 e1 Y2 e2 hs => ih x y rr W X1 d1 X2 d2 Y1 e1 Y2 e2 (by
   have h1 := List.sizeOf_lt_of_mem hx
   rw [S27.mk.sizeOf_spec] at hn
   omega) hs) h
  have HBB := Aside0.mk hbb
  have HA := Aside0.mk a44
  have HE := Aside0.mk a62
  have h0 : W.heap.size < W.heap.size + 1 := Nat.lt_succ_self _
  clear ih h ha g1 g2 f1 f2 hbb a44 he a62
  go_enter Try.func51, Try.ntmps51
  go_wp2_with (first | ((with_reducible refine HA.out.mono ?_); rintro e w3 ⟨rfl, ⟨nd, rfl⟩⟩) | ((with_reducible refine (HE.out _).mono ?_); rintro e w3 ⟨rfl, hb3⟩; have HB3 := Aside0.mk hb3; clear hb3))
  go_ret
  exact ⟨rfl, (pw_below_drewN HBB.out _).trans (HB3.out.mono (by simp; omega))⟩
theorem abstract_Same.calls (k : Nat) (a0_0 : ByteArray) (A0_1 : Option Addr) (c0_1 : Nat) (l0_1 : List Int) (A0_2 : Option Addr) (c0_2 : Nat) (l0_2 : List S27) (a1_0 : ByteArray) (A1_1 : Option Addr) (c1_1 : Nat) (l1_1 : List Int) (A1_2 : Option Addr) (c1_2 : Nat) (l1_2 : List S27) (r : Bool) (w : World) (hr0_1 : Kd.C (Kd.int .i64) w A0_1 l0_1.length l0_1) (hc0_1 : l0_1.length ≤ c0_1) (hr0_2 : Kd.C k27 w A0_2 l0_2.length l0_2) (hc0_2 : l0_2.length ≤ c0_2) (hr1_1 : Kd.C (Kd.int .i64) w A1_1 l1_1.length l1_1) (hc1_1 : l1_1.length ≤ c1_1) (hr1_2 : Kd.C k27 w A1_2 l1_2.length l1_2) (hc1_2 : l1_2.length ≤ c1_2) (h : abstract_Same.f k a0_0 l0_1 l0_2 a1_0 l1_1 l1_2 = some r) :
  Calls Try.prog 51 #[.agg #[.string a0_0, .slice A0_1 l0_1.length c0_1, .slice A0_2 l0_2.length c0_2], .agg #[.string a1_0, .slice A1_1 l1_1.length c1_1, .slice A1_2 l1_2.length c1_2]] w fun e w' => e = .returned (.bool r) ∧ Below w.heap.size w w' :=
 same_any k _ ⟨a0_0, l0_1, l0_2⟩ ⟨a1_0, l1_1, l1_2⟩ r w A0_1 c0_1 A0_2 c0_2 A1_1 c1_1 A1_2 c1_2 (Nat.lt_succ_self _) h hr0_1 hc0_1 hr0_2 hc0_2 hr1_1 hc1_1 hr1_2 hc1_2

end Go.Proofs.Ytfampmajmbediaa.P
