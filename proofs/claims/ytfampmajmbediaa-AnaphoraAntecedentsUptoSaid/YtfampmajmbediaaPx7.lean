-- Written by the session's own program wip/tools/xprint.py out of the translation, with the kit's print.py on a scratch copy; functions given by hand stand among them.
import Derived.Test.YtfampmajmbediaaPx0
namespace Go.Proofs.Ytfampmajmbediaa.P
open Go.RowKit Go.Proofs.YtfampmajmbediaaW.PrintWords Go.Proofs.YtfampmajmbediaaW.PrintLast Go.Proofs.YtfampmajmbediaaW.PrintMore
attribute [local go_sem] max2_int min2_int max_two min_two max_three min_three max_four min_four   -- for this text's walks alone
set_option linter.unusedVariables false
set_option linter.unusedSimpArgs false

/-! ### pentaglotref31_Same: function 15, by hand -/
mutual
def sameB : S27 → S27 → Bool
 | ⟨a, b, c⟩, u => a.toList == u.f0.toList && (b == u.f1 && sameBL c u.f2)
def sameBL : List S27 → List S27 → Bool
 | [], [] => true
 | x :: xs, y :: ys => sameB x y && sameBL xs ys
 | [], _ :: _ => false
 | _ :: _, [] => false
end
theorem sameBL_len : ∀ (l m : List S27), sameBL l m = true → l.length = m.length
 | [], [], _ => rfl
 | x :: xs, y :: ys, h => by
  rw [sameBL, Bool.and_eq_true] at h
  rw [List.length_cons, List.length_cons, sameBL_len xs ys h.2]
 | [], _ :: _, h => by simp [sameBL] at h
 | _ :: _, [], h => by simp [sameBL] at h
def pentaglotref31_Same.f (a0_0 : ByteArray) (l0_1 : List Int) (l0_2 : List S27) (a1_0 : ByteArray) (l1_1 : List Int) (l1_2 : List S27) : Option Bool := some (sameB ⟨a0_0, l0_1, l0_2⟩ ⟨a1_0, l1_1, l1_2⟩)
set_option maxHeartbeats 16000000 in
set_option maxRecDepth 100000 in
theorem same31_any : ∀ (n : Nat) (x y : S27) (W : World) (X1 : Option Addr) (d1 : Nat) (X2 : Option Addr) (d2 : Nat) (Y1 : Option Addr) (e1 : Nat) (Y2 : Option Addr) (e2 : Nat), SizeOf.sizeOf x < n → Kd.C (Kd.int .i64) W X1 x.f1.length x.f1 → x.f1.length ≤ d1 → Kd.C k27 W X2 x.f2.length x.f2 → x.f2.length ≤ d2 →
   Kd.C (Kd.int .i64) W Y1 y.f1.length y.f1 → y.f1.length ≤ e1 → Kd.C k27 W Y2 y.f2.length y.f2 → y.f2.length ≤ e2 →
   Calls Try.prog 15 #[.agg #[.string x.f0, .slice X1 x.f1.length d1, .slice X2 x.f2.length d2], .agg #[.string y.f0, .slice Y1 y.f1.length e1, .slice Y2 y.f2.length e2]] W fun e w' => e = .returned (.bool (sameB x y)) ∧ Below W.heap.size W w' := by
 intro n
 induction n with
 | zero => intro x y W X1 d1 X2 d2 Y1 e1 Y2 e2 hn; exact absurd hn (Nat.not_lt_zero _)
 | succ n ih =>
 intro x y W X1 d1 X2 d2 Y1 e1 Y2 e2 hn g1 q1 g2 q2 f1 p1 f2 p2
 obtain ⟨a, b, c⟩ := x
 obtain ⟨a', b', c'⟩ := y
 dsimp only at g1 q1 g2 q2 f1 p1 f2 p2 ⊢
 rw [sameB]
 dsimp only
 have hu27 := Try.underlying27
 have hbb := below_alloc (below_alloc (Below.refl W.heap.size W) (.cells #[.string a, .slice X1 b.length d1, .slice X2 c.length d2] 27)) (.cells #[.string a', .slice Y1 b'.length e1, .slice Y2 c'.length e2] 27)
 have HBB := Aside0.mk hbb
 have h0 : W.heap.size < W.heap.size + 1 := Nat.lt_succ_self _
 have IH := Aside0.mk ih
 have HN := Aside0.mk hn
 have G1 := Aside0.mk g1
 have G2 := Aside0.mk g2
 have F1 := Aside0.mk f1
 have F2 := Aside0.mk f2
 have hm1 : b.length ≤ 9223372036854775807 := g1.2.1
 have hm2 : c.length ≤ 9223372036854775807 := g2.2.1
 clear ih g1 g2 f1 f2 hbb hn
 by_cases ha : a.toList = a'.toList
 case neg =>
  have hab : (a.toList != a'.toList) = true := by simp [ha]
  have hab2 : (a.toList == a'.toList) = false := by simp [ha]
  clear ha
  go_enter Try.func15, Try.ntmps15
  go_wp2
  go_ret
  exact ⟨by rw [hab2]; rfl, HBB.out⟩
 have hab : (a.toList != a'.toList) = false := by simp [ha]
 have hab2 : (a.toList == a'.toList) = true := by simp [ha]
 clear ha
 rw [hab2, Bool.true_and]
 by_cases hb : b.length = b'.length
 case neg =>
  have hb1 : ((b.length : Int) != (b'.length : Int)) = true := by simp; omega
  have hb2 : (b == b') = false := by
   rw [beq_eq_false_iff_ne]
   rintro rfl
   exact hb rfl
  clear hb
  go_enter Try.func15, Try.ntmps15
  go_wp2
  go_ret
  exact ⟨by rw [hb2]; rfl, HBB.out⟩
 have hb1 : ((b.length : Int) != (b'.length : Int)) = false := by simp; omega
 by_cases hc : c.length = c'.length
 case neg =>
  have hc1 : ((c.length : Int) != (c'.length : Int)) = true := by simp; omega
  have hc2 : sameBL c c' = false := by
   cases hs : sameBL c c'
   ·rfl
   ·exact absurd (sameBL_len _ _ hs) hc
  clear hc hb
  go_enter Try.func15, Try.ntmps15
  go_wp2
  go_ret
  exact ⟨by rw [hc2, Bool.and_false]; rfl, HBB.out⟩
 have hc1 : ((c.length : Int) != (c'.length : Int)) = false := by simp; omega
 have HBL := Aside0.mk hb
 have HCL := Aside0.mk hc
 clear hb hc
 have HA1 := Aside0.mk (((below_alloc (Below.refl (W.alloc (.cells #[.string a, .slice X1 b.length d1, .slice X2 c.length d2] 27)).heap.size (W.alloc (.cells #[.string a, .slice X1 b.length d1, .slice X2 c.length d2] 27))) (.cells #[.string a', .slice Y1 b'.length e1, .slice Y2 c'.length e2] 27)).block W.heap.size (by simp)).trans (heap_alloc_new W (.cells #[.string a, .slice X1 b.length d1, .slice X2 c.length d2] 27)))
 have HA2 := Aside0.mk (show ((W.alloc (.cells #[.string a, .slice X1 b.length d1, .slice X2 c.length d2] 27)).alloc (.cells #[.string a', .slice Y1 b'.length e1, .slice Y2 c'.length e2] 27)).heap[W.heap.size + 1]? = some (.cells #[.string a', .slice Y1 b'.length e1, .slice Y2 c'.length e2] 27 (0, 0)) from by rw [show W.heap.size + 1 = (W.alloc (.cells #[.string a, .slice X1 b.length d1, .slice X2 c.length d2] 27)).heap.size by simp]; exact heap_alloc_new _ _)
 go_enter Try.func15, Try.ntmps15
 go_wp2
 generalize (W.alloc (.cells #[.string a, .slice X1 b.length d1, .slice X2 c.length d2] 27)).alloc (.cells #[.string a', .slice Y1 b'.length e1, .slice Y2 c'.length e2] 27) = W2 at HBB HA1 HA2 ⊢
 go_loopw [5] (fun v5 wr => ∃ j : Nat, v5 = .int .i64 (j : Int) ∧ Aside0 (j ≤ b.length) ∧ Aside0 (∀ i, i < j → b[i]? = b'[i]?) ∧ Aside0 (Below W2.heap.size W2 wr)) (fun v5 _ => b.length - (intOf v5).toNat)
 case atStart => exact ⟨0, rfl, ⟨Nat.zero_le _⟩, ⟨fun i hi => absurd hi (Nat.not_lt_zero _)⟩, ⟨Below.refl _ _⟩⟩
 case round =>
  obtain ⟨j, rfl, HJ, HP, HW⟩ := hrel
  have HB1 := Aside0.mk (blk_below HA1.out HW.out)
  have HB2 := Aside0.mk (blk_below HA2.out HW.out)
  have z1 : wr.cell? ⟨W.heap.size, 1, none⟩ = some (.slice X1 b.length d1) := (blk_cell (blk_below HA1.out HW.out) 1).trans rfl
  by_cases hj : j < b.length
  case pos =>
   have hj' : j < b'.length := by have := HBL.out; omega
   have hj0 : (0 : Int) ≤ (j : Int) := Int.natCast_nonneg _
   have hj1 : (j : Int) < (b.length : Int) := by omega
   have hj2 : (j : Int) < (b'.length : Int) := by omega
   obtain ⟨ad1, rfl, k1⟩ := Kd.at_int (Kd.C_below (Kd.C_below G1.out HBB.out) HW.out) (j : Int) hj0 hj1
   obtain ⟨ad2, rfl, k2⟩ := Kd.at_int (Kd.C_below (Kd.C_below F1.out HBB.out) HW.out) (j : Int) hj0 hj2
   rw [Int.toNat_natCast] at k1 k2
   obtain ⟨x, hx⟩ : ∃ x, rd b (j : Int) = x := ⟨_, rfl⟩
   obtain ⟨y, hy⟩ : ∃ y, rd b' (j : Int) = y := ⟨_, rfl⟩
   rw [hx] at k1
   rw [hy] at k2
   have HX := Aside0.mk (show b[j]? = some x by rw [← hx]; unfold rd; rw [Int.toNat_natCast, List.getD_eq_getElem?_getD, List.getElem?_eq_getElem hj]; rfl)
   have HY := Aside0.mk (show b'[j]? = some y by rw [← hy]; unfold rd; rw [Int.toNat_natCast, List.getD_eq_getElem?_getD, List.getElem?_eq_getElem hj']; rfl)
   have K1 := Aside0.mk k1
   have K2 := Aside0.mk k2
   have HJJ := Aside0.mk hj
   obtain ⟨q, hq⟩ : ∃ q, (x != y) = q := ⟨_, rfl⟩
   have HBD := Aside0.mk (below_drew (Below.refl wr.heap.size wr))
   clear k1 k2 hx hy
   go_wp2
   refine start_ (n := 11) (S := fun w' => w'.cell? ⟨W.heap.size, 1, none⟩ = some (.slice (some ad1) b.length d1) ∧ w'.cell? ⟨W.heap.size + 1, 1, none⟩ = some (.slice (some ad2) b'.length e1) ∧ w'.cell? (ad1.add j) = some (.int .i64 x) ∧ w'.cell? (ad2.add j) = some (.int .i64 y)) (ds := []) #[false, false, false, false, false, false, false, false, false, false, false] (by kernel_rfl) rfl rfl ⟨(blk_cell (blk_below HB1.out HBD.out) 1).trans rfl, (blk_cell (blk_below HB2.out HBD.out) 1).trans rfl, (HBD.out.cell (World.block_lt_of_cell? _ _ K1.out)).trans K1.out, (HBD.out.cell (World.block_lt_of_cell? _ _ K2.out)).trans K2.out⟩ (fun hHeld => ?_)
   generalize wr.drew = A1 at HBD hHeld ⊢
   refine pu_ 0 (some 37) ?_
   refine tk_ 1 (some 38) hHeld ?_
   refine pu_ 2 (some 39) ?_
   refine pu_ 3 (some 40) ?_
   refine tk_ 4 (some 41) hHeld ?_
   refine pu_ 5 (some 42) ?_
   refine tk_ 6 (some 43) hHeld ?_
   refine pu_ 7 (some 44) ?_
   refine pu_ 8 (some 45) ?_
   refine tk_ 9 (some 46) hHeld ?_
   refine pu_ 10 (some 47) ?_
   refine done_ (by kernel_rfl) ?_
   cases q with
   | true =>
    go_wp2
    go_ret
    refine ⟨?_, HBB.out.trans ((HW.out.trans (HBD.out.mono HW.out.size)).mono HBB.out.size)⟩
    have hne : (b == b') = false := by
     rw [beq_eq_false_iff_ne]
     rintro rfl
     have := HX.out.symm.trans HY.out
     rw [Option.some.inj this] at hq
     simp at hq
    rw [hne]
    rfl
   | false =>
    go_wp2
    go_roundw
    case rel =>
     refine ⟨j + 1, by go_num, ⟨HJJ.out⟩, ⟨fun i hi => ?_⟩, ⟨HW.out.trans (HBD.out.mono HW.out.size)⟩⟩
     by_cases hi' : i < j
     ·exact HP.out i hi'
     ·have : i = j := by omega
      subst this
      have hxy : x = y := by simpa using hq
      rw [HX.out, HY.out, hxy]
    case measure => simp [intOf]; omega
  case neg =>
   have hj1 : ¬ (j : Int) < (b.length : Int) := by omega
   have hbb : b = b' := by
    refine List.ext_getElem? (fun i => ?_)
    by_cases hi : i < j
    ·exact HP.out i hi
    ·have h1 := HBL.out
     rw [List.getElem?_eq_none (by omega), List.getElem?_eq_none (by omega)]
   have HBE := Aside0.mk (show (b == b') = true by rw [hbb]; exact beq_self_eq_true _)
   clear hbb HJ HP
   go_wp2
   generalize wr = wq at HW HB1 HB2 z1 ⊢
   go_loopw [6] (fun v6 wr => ∃ j : Nat, v6 = .int .i64 (j : Int) ∧ Aside0 (j ≤ c.length) ∧ Aside0 (sameBL c c' = sameBL (c.drop j) (c'.drop j)) ∧ Aside0 (Below wq.heap.size wq wr)) (fun v6 _ => c.length - (intOf v6).toNat)
   case atStart => exact ⟨0, rfl, ⟨Nat.zero_le _⟩, ⟨by rw [List.drop_zero, List.drop_zero]⟩, ⟨Below.refl _ _⟩⟩
   case round =>
    obtain ⟨j, rfl, HJ, HP, HQ⟩ := hrel
    have HC1 := Aside0.mk (blk_below HB1.out HQ.out)
    have HC2 := Aside0.mk (blk_below HB2.out HQ.out)
    have HZQ := Aside0.mk (HBB.out.trans ((HW.out.trans (HQ.out.mono HW.out.size)).mono HBB.out.size))
    have z2 : wr.cell? ⟨W.heap.size, 2, none⟩ = some (.slice X2 c.length d2) := (blk_cell HC1.out 2).trans rfl
    by_cases hj : j < c.length
    case neg =>
     have hj2 : ¬ (j : Int) < (c.length : Int) := by omega
     have he : sameBL c c' = true := by
      have hl := HCL.out
      rw [HP.out, List.drop_of_length_le (by omega), List.drop_of_length_le (by omega)]
      rfl
     have HE := Aside0.mk he
     clear he
     go_wp2
     go_ret
     exact ⟨by rw [HBE.out, HE.out]; rfl, HZQ.out⟩
    case pos =>
     have hj' : j < c'.length := by have := HCL.out; omega
     have hj0 : (0 : Int) ≤ (j : Int) := Int.natCast_nonneg _
     have hj2 : (j : Int) < (c.length : Int) := by omega
     have hj3 : (j : Int) < (c'.length : Int) := by omega
     obtain ⟨ad, X1, p1, X2, p2, rfl, k0, k1, k2, g1, g1', g2, g2'⟩ := at_T27 (Kd.C_below G2.out HZQ.out) (j : Int) hj0 hj2
     obtain ⟨ad2, Y1, q1, Y2, q2, rfl, m0, m1, m2, f1, f1', f2, f2'⟩ := at_T27 (Kd.C_below F2.out HZQ.out) (j : Int) hj0 hj3
     simp only [Int.toNat_natCast] at k0 k1 k2 m0 m1 m2
     obtain ⟨x, hx⟩ : ∃ x, rd_T27 c (j : Int) = x := ⟨_, rfl⟩
     obtain ⟨y, hy⟩ : ∃ y, rd_T27 c' (j : Int) = y := ⟨_, rfl⟩
     rw [hx] at k0 k1 k2 g1 g1' g2 g2'
     rw [hy] at m0 m1 m2 f1 f1' f2 f2'
     have hxe : c[j] = x := by rw [← hx]; unfold rd_T27; rw [Int.toNat_natCast, List.getD_eq_getElem?_getD, List.getElem?_eq_getElem hj]; rfl
     have hye : c'[j] = y := by rw [← hy]; unfold rd_T27; rw [Int.toNat_natCast, List.getD_eq_getElem?_getD, List.getElem?_eq_getElem hj']; rfl
     have hlt : SizeOf.sizeOf x < n := by
      have h1 := List.sizeOf_lt_of_mem (hxe ▸ List.getElem_mem hj : x ∈ c)
      have h2 := HN.out
      rw [S27.mk.sizeOf_spec] at h2
      omega
     obtain ⟨q, hq⟩ : ∃ q, sameB x y = q := ⟨_, rfl⟩
     have hs := HP.out
     rw [List.drop_eq_getElem_cons hj, List.drop_eq_getElem_cons hj', hxe, hye, sameBL, hq] at hs
     have HS := Aside0.mk hs
     have HCALL := Aside0.mk (fun (V : World) (hb : Below wr.heap.size wr V) => hq ▸ IH.out x y V X1 p1 X2 p2 Y1 q1 Y2 q2 hlt (Kd.C_below g1' hb) g1 (Kd.C_below g2' hb) g2 (Kd.C_below f1' hb) f1 (Kd.C_below f2' hb) f2)
     have K0 := Aside0.mk k0
     have K1 := Aside0.mk k1
     have K2 := Aside0.mk k2
     have M0 := Aside0.mk m0
     have M1 := Aside0.mk m1
     have M2 := Aside0.mk m2
     have HJJ := Aside0.mk hj
     have HBD := Aside0.mk (below_drew (Below.refl wr.heap.size wr))
     clear k0 k1 k2 m0 m1 m2 g1 g1' g2 g2' f1 f1' f2 f2' hx hy hxe hye hlt hs hq HP HJ
     go_wp2
     refine start_ (n := 12) (S := fun w' => w'.cell? ⟨W.heap.size, 2, none⟩ = some (.slice (some ad) c.length d2) ∧ w'.cell? ⟨W.heap.size + 1, 2, none⟩ = some (.slice (some ad2) c'.length e2) ∧ w'.cell? (ad.add (j * 3)) = some (.string x.f0) ∧ w'.cell? ⟨(ad.add (j * 3)).block, (ad.add (j * 3)).off + 1, none⟩ = some (.slice X1 x.f1.length p1) ∧ w'.cell? ⟨(ad.add (j * 3)).block, (ad.add (j * 3)).off + 2, none⟩ = some (.slice X2 x.f2.length p2) ∧ w'.cell? (ad2.add (j * 3)) = some (.string y.f0) ∧ w'.cell? ⟨(ad2.add (j * 3)).block, (ad2.add (j * 3)).off + 1, none⟩ = some (.slice Y1 y.f1.length q1) ∧ w'.cell? ⟨(ad2.add (j * 3)).block, (ad2.add (j * 3)).off + 2, none⟩ = some (.slice Y2 y.f2.length q2)) (ds := []) #[false, false, false, false, false, false, false, false, false, false, false, false] (by kernel_rfl) rfl rfl ⟨(blk_cell (blk_below HC1.out HBD.out) 2).trans rfl, (blk_cell (blk_below HC2.out HBD.out) 2).trans rfl, (HBD.out.cell (World.block_lt_of_cell? _ _ K0.out)).trans K0.out, (HBD.out.cell (World.block_lt_of_cell? _ _ K1.out)).trans K1.out, (HBD.out.cell (World.block_lt_of_cell? _ _ K2.out)).trans K2.out, (HBD.out.cell (World.block_lt_of_cell? _ _ M0.out)).trans M0.out, (HBD.out.cell (World.block_lt_of_cell? _ _ M1.out)).trans M1.out, (HBD.out.cell (World.block_lt_of_cell? _ _ M2.out)).trans M2.out⟩ (fun hHeld => ?_)
     generalize wr.drew = A1 at HBD hHeld ⊢
     refine pu_ 0 (some 55) ?_
     refine tk_ 1 (some 56) hHeld ?_
     refine pu_ 2 (some 57) ?_
     refine pu_ 3 (some 58) ?_
     refine tk_ 4 (some 59) hHeld ?_
     refine pu_ 5 (some 60) ?_
     refine tk_ 6 (some 61) hHeld ?_
     refine pu_ 7 (some 62) ?_
     refine pu_ 8 (some 63) ?_
     refine tk_ 9 (some 64) hHeld ?_
     refine on_ 10 (some 65) (fun K hK => ?_)
     refine go_ Try.func15 #[.agg #[.string x.f0, .slice X1 x.f1.length p1, .slice X2 x.f2.length p2], .agg #[.string y.f0, .slice Y1 y.f1.length q1, .slice Y2 y.f2.length q2]] ?_
     refine (HCALL.out _ HBD.out).mono ?_
     rintro e w9 ⟨rfl, hz⟩
     refine ⟨_, rfl, ?_⟩
     have HZ := Aside0.mk (HBD.out.trans (hz.mono HBD.out.size))
     clear hz
     refine hK.out _ _ ⟨(blk_cell (blk_below HC1.out HZ.out) 2).trans rfl, (blk_cell (blk_below HC2.out HZ.out) 2).trans rfl, (HZ.out.cell (World.block_lt_of_cell? _ _ K0.out)).trans K0.out, (HZ.out.cell (World.block_lt_of_cell? _ _ K1.out)).trans K1.out, (HZ.out.cell (World.block_lt_of_cell? _ _ K2.out)).trans K2.out, (HZ.out.cell (World.block_lt_of_cell? _ _ M0.out)).trans M0.out, (HZ.out.cell (World.block_lt_of_cell? _ _ M1.out)).trans M1.out, (HZ.out.cell (World.block_lt_of_cell? _ _ M2.out)).trans M2.out⟩ (fun hHeld => ?_)
     clear hK K
     refine no_ (N := some 65) ?_
     refine pu_ 11 (some 66) ?_
     refine done_ (by kernel_rfl) ?_
     cases q with
     | true =>
      go_wp2
      go_roundw
      case rel => exact ⟨j + 1, by go_num, ⟨HJJ.out⟩, ⟨by rw [HS.out, Bool.true_and]⟩, ⟨HQ.out.trans (HZ.out.mono HQ.out.size)⟩⟩
      case measure => simp [intOf]; omega
     | false =>
      go_wp2
      go_ret
      exact ⟨by rw [HBE.out, HS.out]; rfl, HZQ.out.trans (HZ.out.mono HZQ.out.size)⟩
theorem pentaglotref31_Same.calls (a0_0 : ByteArray) (A0_1 : Option Addr) (c0_1 : Nat) (l0_1 : List Int) (A0_2 : Option Addr) (c0_2 : Nat) (l0_2 : List S27) (a1_0 : ByteArray) (A1_1 : Option Addr) (c1_1 : Nat) (l1_1 : List Int) (A1_2 : Option Addr) (c1_2 : Nat) (l1_2 : List S27) (r : Bool) (w : World) (hr0_1 : Kd.C (Kd.int .i64) w A0_1 l0_1.length l0_1) (hc0_1 : l0_1.length ≤ c0_1) (hr0_2 : Kd.C k27 w A0_2 l0_2.length l0_2) (hc0_2 : l0_2.length ≤ c0_2) (hr1_1 : Kd.C (Kd.int .i64) w A1_1 l1_1.length l1_1) (hc1_1 : l1_1.length ≤ c1_1) (hr1_2 : Kd.C k27 w A1_2 l1_2.length l1_2) (hc1_2 : l1_2.length ≤ c1_2) (h : pentaglotref31_Same.f a0_0 l0_1 l0_2 a1_0 l1_1 l1_2 = some r) :
  Calls Try.prog 15 #[.agg #[.string a0_0, .slice A0_1 l0_1.length c0_1, .slice A0_2 l0_2.length c0_2], .agg #[.string a1_0, .slice A1_1 l1_1.length c1_1, .slice A1_2 l1_2.length c1_2]] w fun e w' => e = .returned (.bool r) ∧ Below w.heap.size w w' := by
 obtain rfl := Option.some.inj h
 exact same31_any _ ⟨a0_0, l0_1, l0_2⟩ ⟨a1_0, l1_1, l1_2⟩ w A0_1 c0_1 A0_2 c0_2 A1_1 c1_1 A1_2 c1_2 (Nat.lt_succ_self _) hr0_1 hc0_1 hr0_2 hc0_2 hr1_1 hc1_1 hr1_2 hc1_2

end Go.Proofs.Ytfampmajmbediaa.P
