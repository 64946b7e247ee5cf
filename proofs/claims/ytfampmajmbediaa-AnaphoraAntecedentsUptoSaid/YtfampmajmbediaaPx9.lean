-- Written by the session's own program wip/tools/xprint.py out of the translation, with the kit's print.py on a scratch copy; functions given by hand stand among them.
import Derived.Test.YtfampmajmbediaaPx0
import Derived.Test.YtfampmajmbediaaPx2
import Derived.Test.YtfampmajmbediaaPx3
import Derived.Test.YtfampmajmbediaaPx8
namespace Go.Proofs.Ytfampmajmbediaa.P
open Go.RowKit Go.Proofs.YtfampmajmbediaaW.PrintWords Go.Proofs.YtfampmajmbediaaW.PrintLast Go.Proofs.YtfampmajmbediaaW.PrintMore
attribute [local go_sem] max2_int min2_int max_two min_two max_three min_three max_four min_four   -- for this text's walks alone
set_option linter.unusedVariables false
set_option linter.unusedSimpArgs false

/-! ### anaphora_Pronouns: function 20, by hand -/
-- leans on 56 59 43
mutual
/-- What Nodes hands over, in its order: paths and copies of the subtrees. -/
def nodesO (k : Nat) : List Int → S27 → Option (List (List Int × S27))
  | p, ⟨a, b, c⟩ => (slices_Clone_int_int.f p).bind fun q => (abstract_clone.f k a b c).bind fun r => (nodesLO k p 0 c).bind fun l => some ((q, ⟨r.1, r.2.1, r.2.2⟩) :: l)
def nodesLO (k : Nat) : List Int → Nat → List S27 → Option (List (List Int × S27))
  | _, _, [] => some []
  | p, i, x :: xs => (nodesO k (p ++ [(i : Int)]) x).bind fun l => (nodesLO k p (i + 1) xs).bind fun m => some (l ++ m)
end
mutual
theorem nodesO_mono (k : Nat) : ∀ (p : List Int) (t : S27), LeO (nodesO k p t) (nodesO (k + 1) p t)
  | p, ⟨a, b, c⟩ => by
    unfold nodesO
    exact LeO.bind (LeO.refl _) (fun q => LeO.bind (abstract_clone.mono _ _ _ _) (fun r => LeO.bind (nodesLO_mono k p 0 c) (fun l => LeO.refl _)))
theorem nodesLO_mono (k : Nat) : ∀ (p : List Int) (i : Nat) (xs : List S27), LeO (nodesLO k p i xs) (nodesLO (k + 1) p i xs)
  | p, i, [] => by
    unfold nodesLO
    exact LeO.refl _
  | p, i, x :: xs => by
    unfold nodesLO
    exact LeO.bind (nodesO_mono k _ x) (fun l => LeO.bind (nodesLO_mono k p (i + 1) xs) (fun m => LeO.refl _))
end
/-- A path and a subtree, handed over. -/
def relT (N : Nat) (x : List Int × S27) (v u : Value) (S : Nat → Prop) (A : World) : Prop :=
  Kd.R (Kd.int .i64) 3 A N S v x.1 ∧ ∃ v1 v2, u = .agg #[.string x.2.f0, v1, v2] ∧ Kd.R (Kd.int .i64) 3 A N S v1 x.2.f1 ∧ Kd.R k27 27 A N S v2 x.2.f2
theorem R_putLoop {α : Type} {d : Kd α} {e N : Nat} {xs : List α} {v : Value} {S : Nat → Prop} {A : World} (h : d.R e A N S v xs) {l : Nat} {r : Loop} (hl : A.heap[l]? = some (.loop r)) (o : Obj) : d.R e (World.putObj A l o) N S v xs := by
  refine Kd.R_mono (Kd.R_move (Kd.R_bound h) (fun k hk => World.putObj_heap_other ?_)) (fun k hk => hk.1)
  obtain ⟨_, _, _, q, _, cells, hc⟩ := hk
  rintro rfl
  rw [hl] at hc
  cases hc
theorem relT_put (N : Nat) (x : List Int × S27) (v u : Value) (S : Nat → Prop) (A : World) (l : Nat) (r : Loop) (o : Obj) (h : relT N x v u S A) (hl : A.heap[l]? = some (.loop r)) : relT N x v u S (World.putObj A l o) := by
  obtain ⟨h0, v1, v2, rfl, h1, h2⟩ := h
  exact ⟨R_putLoop h0 hl o, v1, v2, rfl, R_putLoop h1 hl o, R_putLoop h2 hl o⟩
/-- What a visit of a subtree leaves behind. -/
def VisPost (J Jx : (Nat → Prop) → List (List Int × S27) → World → Prop) (Z : Nat → Prop) (xs pre ys : List (List Int × S27)) (Y : Nat → Prop) (W : World) (e : Ending) (W' : World) : Prop :=
  ∃ (b : Bool) (Y' : Nat → Prop), e = .returned (.bool b) ∧ (∀ q, Y' q → Y q ∨ W.heap.size ≤ q) ∧ (∀ q, Y' q → q < W'.heap.size ∧ ¬ Z q) ∧ KeepS (fun q => ¬ Y q) W W' ∧
    (b = true → J Y' (pre ++ ys) W') ∧ (b = false → ∃ pre', pre' <+: xs ∧ Jx Y' pre' W')
/-- What the caller's round does, said of every handing over. -/
def Rounds (l N : Nat) (J Jx : (Nat → Prop) → List (List Int × S27) → World → Prop) (Z : Nat → Prop) (n0 : Nat) (xs : List (List Int × S27)) : Prop :=
  ∀ Y pre x vs S A, pre ++ [x] <+: xs → (∀ q, Y q → q < A.heap.size ∧ ¬ Z q) → n0 ≤ A.heap.size → J Y pre A → (∃ v u, vs = #[v, u] ∧ relT N x v u S A) → (∀ q, S q → n0 ≤ q ∧ q < A.heap.size ∧ ¬ Y q ∧ ¬ Z q) →
    YieldAt Fence.wide 0 Try.prog l vs A fun e B => ∃ Y' : Nat → Prop, (∀ q, Y' q → Y q ∨ S q ∨ A.heap.size ≤ q) ∧ (∀ q, Y' q → q < B.heap.size) ∧ KeepS (fun i => ¬ Y i ∧ ¬ S i) A B ∧
      ((e = .returned (.bool true) ∧ J Y' (pre ++ [x]) B) ∨ (e = .returned (.bool false) ∧ Jx Y' (pre ++ [x]) B))
theorem Rounds.one {l N : Nat} {J Jx : (Nat → Prop) → List (List Int × S27) → World → Prop} {Z : Nat → Prop} {n0 : Nat} {xs : List (List Int × S27)} (h : Rounds l N J Jx Z n0 xs) {Y S : Nat → Prop} {pre : List (List Int × S27)} {x : List Int × S27} {v u : Value} {A : World}
    (h1 : pre ++ [x] <+: xs) (h2 : ∀ q, Y q → q < A.heap.size ∧ ¬ Z q) (h3 : n0 ≤ A.heap.size) (h4 : J Y pre A) (h5 : relT N x v u S A) (h6 : ∀ q, S q → n0 ≤ q ∧ q < A.heap.size ∧ ¬ Y q ∧ ¬ Z q) :
    YieldAt Fence.wide 0 Try.prog l #[v, u] A fun e B => ∃ (b : Bool) (Y' : Nat → Prop), e = .returned (.bool b) ∧ (∀ q, Y' q → Y q ∨ S q ∨ A.heap.size ≤ q) ∧ (∀ q, Y' q → q < B.heap.size) ∧ KeepS (fun i => ¬ Y i ∧ ¬ S i) A B ∧
      (b = true → J Y' (pre ++ [x]) B) ∧ (b = false → Jx Y' (pre ++ [x]) B) := by
  obtain ⟨fn, tmps, assign, body, hy, hR⟩ := h Y pre x #[v, u] S A h1 h2 h3 h4 ⟨v, u, rfl, h5⟩ h6
  refine ⟨fn, tmps, assign, body, hy, hR.mono ?_⟩
  rintro e B ⟨Y', a, b, c, (⟨rfl, d⟩ | ⟨rfl, d⟩)⟩
  · exact ⟨true, Y', rfl, a, b, c, fun _ => d, (fun h => by cases h)⟩
  · exact ⟨false, Y', rfl, a, b, c, (fun h => by cases h), fun _ => d⟩
theorem below_of_grown {w w1 : World} (h : w.grownBy w1 none) : Below w.heap.size w w1 := ⟨h.os, h.tape, h.output, h.size, fun k hk => h.block k hk (by simp)⟩
theorem step_append_path {ops : Array Oper} {o : Oper} {a : Act} {w : World} {K : Act → World → Prop} {Q : Exit → Act → World → Prop} {E : Prop} (hg : o.guard = none) (s x : Operand) (hop : o.op = Op.call { callee := Callee.builtin Builtin.append, args := #[s, x], argTypes := #[25, 25] })
    (Ap : Option Addr) (p : List Int) (hC : Kd.C (Kd.int .i64) w Ap p.length p) (hs : a.eval s = .slice Ap p.length p.length) (ad : Addr) (v : Int) (hx : a.eval x = .slice (some ad) 1 1) (hc : w.cell? (ad.add 0) = some (.int .i64 v)) (hl : p.length < 17592186044416)
    (hK : ∀ (A' : Option Addr) (c' : Nat) (w' : World), Kd.R (Kd.int .i64) 3 w' w.heap.size (fun _ => True) (.slice A' (p ++ [v]).length c') (p ++ [v]) → w.grownBy w' none → K (a.put o.dst (.slice A' (p ++ [v]).length c')) w') :
    if Region.wanted o (yielded ops a.tmps) = true then Oper.wp Try.prog o a w K Q else E := by
  obtain ⟨i0, hi, hz0, hz1, hz2⟩ := info_parts info3
  refine step_append_grows hg s x 25 hop 3 i0 (.int .i64 0) 1 8 Try.underlying25 hi hz0 hz1 hz2 rfl (by decide) Ap p.length p.length (p.map (fun n => .int .i64 n)) hs ?_ (by simp) ?_ ad 1 1 [.int .i64 v] hx rfl ?_ (by simp [Value.oneCell']) (by omega) (by unfold maxLen; omega) (by omega) ?_
  · rintro rfl
    rcases Nat.eq_zero_or_pos p.length with h | h
    · exact ⟨h, h⟩
    · obtain ⟨ad', e, _⟩ := hC.2.2 h
      cases e
  · rintro b rfl j u hj
    have hjl : j < p.length := by have := (List.getElem?_eq_some_iff.1 hj).1; simpa using this
    have h := Kd.foot_int hC (j : Int) (by omega) (by omega)
    rw [Int.toNat_natCast] at h
    rw [h]
    rw [List.getElem?_map, List.getElem?_eq_getElem hjl] at hj
    rw [← Option.some.inj hj]
    congr 2
    unfold rd
    rw [Int.toNat_natCast, List.getD_eq_getElem?_getD, List.getElem?_eq_getElem hjl]
    rfl
  · intro j u hj
    cases j with
    | zero => simp at hj; rw [← hj]; exact hc
    | succ j => simp at hj
  · intro v' w' hown hgr
    have hR : Kd.R (Kd.int .i64) 3 w' w.heap.size (fun _ => True) v' (p ++ [v]) := Kd.R_of_own (enc := fun n => .int .i64 n) (by rw [List.length_append, List.length_singleton]; simpa [encs] using hown) (fun _ _ => trivial)
    obtain ⟨A', c', rfl⟩ := Kd.R_slice hR
    exact hK A' c' w' hR hgr
set_option maxHeartbeats 16000000 in
set_option maxRecDepth 100000 in
theorem visit_any (k l N : Nat) (J Jx : (Nat → Prop) → List (List Int × S27) → World → Prop) (Z : Nat → Prop) (n0 : Nat) (xs : List (List Int × S27)) (hN : N ≤ n0) (hZ : ∀ q, n0 ≤ q → ¬ Z q)
    (hJ : ∀ Y pre A B, J Y pre A → KeepS (fun i => i < n0 ∨ Y i) A B → J Y pre B) (hR : Rounds l N J Jx Z n0 xs) (gy gv : Nat) :
    ∀ (n : Nat) (t : S27) (p : List Int) (ys pre : List (List Int × S27)) (W : World) (Y Pp Pt : Nat → Prop) (Ap : Option Addr) (cp : Nat) (A1 : Option Addr) (c1 : Nat) (A2 : Option Addr) (c2 : Nat),
      SizeOf.sizeOf t < n → nodesO k p t = some ys → pre ++ ys <+: xs → n0 ≤ W.heap.size → J Y pre W → (∀ q, Y q → q < W.heap.size ∧ ¬ Z q) → ¬ Y gy → ¬ Y gv →
      W.heap[gy]? = some (.cells #[.func (.yield l) #[] #[]] 61 (0, 0)) → W.heap[gv]? = some (.cells #[.func (.func 58) #[] #[.pointer (some ⟨gy, 0, none⟩), .pointer (some ⟨gv, 0, none⟩)]] 61 (0, 0)) →
      Kd.F (Kd.int .i64) W Pp Ap p.length p → p.length ≤ cp → (∀ q, Pp q → ¬ Y q) → Kd.F (Kd.int .i64) W Pt A1 t.f1.length t.f1 → t.f1.length ≤ c1 → Kd.F k27 W Pt A2 t.f2.length t.f2 → t.f2.length ≤ c2 → (∀ q, Pt q → ¬ Y q) →
      Calls Try.prog 58 #[.slice Ap p.length cp, .agg #[.string t.f0, .slice A1 t.f1.length c1, .slice A2 t.f2.length c2], .pointer (some ⟨gy, 0, none⟩), .pointer (some ⟨gv, 0, none⟩)] W (VisPost J Jx Z xs pre ys Y W) := by
  intro n
  induction n with
  | zero => intro t p ys pre W Y Pp Pt Ap cp A1 c1 A2 c2 ht; exact absurd ht (Nat.not_lt_zero _)
  | succ n ih =>
  intro t p ys pre W Y Pp Pt Ap cp A1 c1 A2 c2 ht hys hpre hW hJW hY hgy hgv hcy hcv hp hcp hpY h1 hc1 h2 hc2 htY
  obtain ⟨f0, f1, f2⟩ := t
  rw [nodesO] at hys
  obtain ⟨q, hq, hys⟩ := Option.bind_eq_some_iff.1 hys
  obtain ⟨⟨r1, r2, r3⟩, hr, hys⟩ := Option.bind_eq_some_iff.1 hys
  obtain ⟨ls, hls, hys⟩ := Option.bind_eq_some_iff.1 hys
  obtain rfl := Option.some.inj hys
  clear hys
  dsimp only at h1 hc1 h2 hc2 hpre
  have hu27 := Try.underlying27
  have hc59 := fun (W1 : World) (hb : Below W.heap.size W W1) => slices_Clone_int_int.calls Ap cp p q W1 (Kd.F_now (Kd.F_below hp hb)) hcp hq
  have hc56 := fun (W1 : World) (hb : Below W.heap.size W W1) => abstract_clone.calls k f0 A1 c1 f1 A2 c2 f2 r1 r2 r3 W1 (Kd.F_now (Kd.F_below h1 hb)) hc1 (Kd.F_now (Kd.F_below h2 hb)) hc2 hr
  have hpre1 : pre ++ [(q, (⟨r1, r2, r3⟩ : S27))] <+: xs := List.IsPrefix.trans ⟨ls, by simp⟩ hpre
  have hxW : (W.alloc (.cells #[.string f0, .slice A1 f1.length c1, .slice A2 f2.length c2] 27)).heap[W.heap.size]? = some (.cells #[.string f0, .slice A1 f1.length c1, .slice A2 f2.length c2] 27 (0, 0)) := heap_alloc_new _ _
  have x0 : (W.alloc (.cells #[.string f0, .slice A1 f1.length c1, .slice A2 f2.length c2] 27)).cell? ⟨gy, 0, none⟩ = some (.func (.yield l) #[] #[]) := (blk_cell (blk_alloc hcy _) 0).trans rfl
  have HYC := Aside0.mk hcy
  have HVC := Aside0.mk hcv
  have HP := Aside0.mk (Kd.F_bound hp)
  have HCP := Aside0.mk hcp
  have HPY := Aside0.mk hpY
  have H2 := Aside0.mk (Kd.F_bound h2)
  have HC2 := Aside0.mk hc2
  have HTY := Aside0.mk htY
  have HJW := Aside0.mk hJW
  have HYY := Aside0.mk hY
  have HPRE := Aside0.mk hpre
  have HPRE1 := Aside0.mk hpre1
  have HLS := Aside0.mk hls
  have HGY := Aside0.mk hgy
  have HGV := Aside0.mk hgv
  have HT := Aside0.mk ht
  have HIH := Aside0.mk ih
  have HJ := Aside0.mk hJ
  have HR := Aside0.mk hR
  have HZ := Aside0.mk hZ
  have HW := Aside0.mk hW
  have HNN := Aside0.mk hN
  have HXW := Aside0.mk hxW
  have HQL : Aside0 (p.length < 17592186044416) := ⟨by
    unfold slices_Clone_int_int.f at hq
    by_cases h : p.length < 17592186044416
    · exact h
    · rw [if_neg h] at hq; cases hq⟩
  clear hcy hcv hp hcp hpY h1 h2 hc1 hc2 htY hJW hY hpre hpre1 hls hgy hgv ht ih hJ hR hZ hW hN hxW hq hr
  show Calls Try.prog 58 #[.slice Ap p.length cp, .agg #[.string f0, .slice A1 f1.length c1, .slice A2 f2.length c2], .pointer (some ⟨gy, 0, none⟩), .pointer (some ⟨gv, 0, none⟩)] W _
  go_enter Try.func58, Try.ntmps58
  go_upto_region 1 with (fail)
  go_cut [15] (fun v15 wx => ∃ (b : Bool) (Y1 : Nat → Prop), v15 = .bool (!b) ∧ Aside0 (∀ i, Y1 i → Y i ∨ W.heap.size < i) ∧ Aside0 (∀ i, Y1 i → i < wx.heap.size ∧ ¬ Z i) ∧ Aside0 (KeepS (fun i => ¬ Y i) W wx) ∧ Aside0 (wx.heap[W.heap.size]? = some (.cells #[.string f0, .slice A1 f1.length c1, .slice A2 f2.length c2] 27 (0, 0))) ∧ Aside0 (b = true → J Y1 (pre ++ [(q, (⟨r1, r2, r3⟩ : S27))]) wx) ∧ Aside0 (b = false → Jx Y1 (pre ++ [(q, (⟨r1, r2, r3⟩ : S27))]) wx))
  case first =>
    refine (wpIn_wide (n := 1)).1 ?_
    gi_region_with (first
      | (refine ⟨trivial, ?_⟩; gi_at_call 59; refine ((callsIn_wide (n := 0)).2 (hc59 _ (below_drew (below_alloc (Below.refl _ _) _)))).mono ?_; rintro e w1 ⟨v1, rfl, hv1, hb1⟩
         have HV1 := Aside0.mk hv1
         have HB1 := Aside0.mk hb1
         have hx1 := blk_below (blk_drew HXW.out) hb1
         have HX1 := Aside0.mk hx1
         have y0 : w1.cell? ⟨W.heap.size, 0, none⟩ = some (.string f0) := (blk_cell hx1 0).trans rfl
         have y1 : w1.cell? ⟨W.heap.size, 1, none⟩ = some (.slice A1 f1.length c1) := (blk_cell hx1 1).trans rfl
         have y2 : w1.cell? ⟨W.heap.size, 2, none⟩ = some (.slice A2 f2.length c2) := (blk_cell hx1 2).trans rfl
         have y3 : w1.cell? ⟨gy, 0, none⟩ = some (.func (.yield l) #[] #[]) := (blk_cell (blk_below (blk_drew (blk_alloc HYC.out _)) hb1) 0).trans rfl
         clear hv1 hb1 hx1 hc59)
      | (refine ⟨trivial, ?_⟩; gi_at_call 56; refine ((callsIn_wide (n := 0)).2 (hc56 _ ((below_drew (below_alloc (Below.refl _ _) _)).trans (HB1.out.mono (by simp))))).mono ?_; rintro e w2 ⟨v2, v3, rfl, hv2, hv3, hb2⟩
         have HB2 := Aside0.mk ((below_drew (below_alloc (Below.refl W.heap.size W) (.cells #[.string f0, .slice A1 f1.length c1, .slice A2 f2.length c2] 27))).trans ((HB1.out.mono (by simp)).trans (hb2.mono (by have := HB1.out.size; simp at this; omega))))
         have y4 : w2.cell? ⟨gy, 0, none⟩ = some (.func (.yield l) #[] #[]) := (blk_cell (blk_below HYC.out HB2.out) 0).trans rfl
         have hs1 : W.heap.size + 1 ≤ w1.heap.size := by have := HB1.out.size; simpa using this
         have hs2 := hb2.size
         have hrel : relT N (q, (⟨r1, r2, r3⟩ : S27)) v1 (.agg #[.string r1, v2, v3]) (fun i => W.heap.size < i ∧ i < w2.heap.size) w2 :=
           ⟨Kd.R_lower (Kd.R_mono (Kd.R_bound (Kd.R_below HV1.out hb2)) (fun i hi => ⟨by have h := hi.2.1; simp at h; omega, hi.2.2.1⟩)) (by have := HNN.out; have := HW.out; simp; omega), v2, v3, rfl,
            Kd.R_lower (Kd.R_mono (Kd.R_bound hv2) (fun i hi => ⟨by have h := hi.2.1; omega, hi.2.2.1⟩)) (by have := HNN.out; have := HW.out; omega),
            Kd.R_lower (Kd.R_mono (Kd.R_bound hv3) (fun i hi => ⟨by have h := hi.2.1; omega, hi.2.2.1⟩)) (by have := HNN.out; have := HW.out; omega)⟩
         obtain ⟨fn, tmps, assign, body, hyl, hRI⟩ := HR.out.one (A := w2) HPRE1.out (fun i hi => ⟨Nat.lt_of_lt_of_le (HYY.out i hi).1 HB2.out.size, (HYY.out i hi).2⟩) (Nat.le_trans HW.out HB2.out.size)
           (HJ.out _ _ _ _ HJW.out (KeepS.of_below HB2.out (fun i hi _ => hi))) hrel (fun i hi => ⟨by have := HW.out; omega, hi.2, fun h => by have := (HYY.out i h).1; omega, HZ.out i (by have := HW.out; omega)⟩)
         have HRI := Aside0.mk hRI
         have HX2 := Aside0.mk (blk_below HX1.out hb2)
         clear hrel hRI hv2 hv3 hb2 hs1 hs2 y0 y1 y2 y3 hc56)
      | (refine HRI.out.mono ?_; rintro e w4 ⟨b, Y1, rfl, g1, g2, g3, g4, g5⟩
         have G1 := Aside0.mk g1
         have G2 := Aside0.mk g2
         have G3 := Aside0.mk g3
         have G4 := Aside0.mk g4
         have G5 := Aside0.mk g5
         clear g1 g2 g3 g4 g5 hyl HRI y4))
    all_goals go_wp2
    all_goals go_meet
    all_goals exact ⟨b, Y1, rfl, ⟨fun i h => by
      rcases G1.out i h with h | h | h
      · exact .inl h
      · exact .inr h.1
      · exact .inr (Nat.lt_of_lt_of_le (blk_lt HX2.out) h)⟩, ⟨fun i h => ⟨G2.out i h, by
      rcases G1.out i h with h | h | h
      · exact (HYY.out i h).2
      · exact HZ.out i (Nat.le_trans HW.out (Nat.le_of_lt h.1))
      · exact HZ.out i (Nat.le_trans HW.out (Nat.le_trans HB2.out.size h))⟩⟩, ⟨((KeepS.of_below (S := fun i => ¬ Y i ∧ i < W.heap.size) HB2.out (fun i hi _ => hi)).trans (G3.out.mono (fun i hi hy => ⟨hy.1, fun h => by have := h.1; have := hy.2; omega⟩))).mono (fun i hi hy => ⟨hy, hi⟩)⟩,
      ⟨G3.out.blk HX2.out ⟨fun h => Nat.lt_irrefl _ (HYY.out _ h).1, fun h => Nat.lt_irrefl _ h.1⟩⟩, G4, G5⟩
  case rest =>
    obtain ⟨b, Y1, rfl, HY1, HYB, HK1, HXC, HT1, HF1⟩ := hcut
    cases b with
    | false =>
      have HF2 := Aside0.mk (HF1.out rfl)
      clear HF1 HT1
      go_wp2
      go_ret
      exact ⟨false, Y1, rfl, fun i h => (HY1.out i h).imp id Nat.le_of_lt, HYB.out, HK1.out, (fun h => by cases h), fun _ => ⟨_, HPRE1.out, HF2.out⟩⟩
    | true =>
      have HT2 := Aside0.mk (HT1.out rfl)
      have z2 : wc.cell? ⟨W.heap.size, 2, none⟩ = some (.slice A2 f2.length c2) := (blk_cell HXC.out 2).trans rfl
      clear HT1 HF1
      go_wp2
      go_loopw [19] (fun v19 wr => ∃ (j : Nat) (dn rest : List (List Int × S27)) (Yj : Nat → Prop), v19 = .int .i64 (j : Int) ∧ Aside0 (j ≤ f2.length) ∧ Aside0 (nodesLO k p j (f2.drop j) = some rest ∧ dn ++ rest = ls) ∧ Aside0 (J Yj ((pre ++ [(q, (⟨r1, r2, r3⟩ : S27))]) ++ dn) wr) ∧ Aside0 (∀ i, Yj i → Y i ∨ W.heap.size < i) ∧ Aside0 (∀ i, Yj i → i < wr.heap.size ∧ ¬ Z i) ∧ Aside0 (KeepS (fun i => ¬ Y i) W wr)) (fun v19 _ => f2.length - (intOf v19).toNat)
      case atStart => exact ⟨0, [], ls, Y1, rfl, ⟨Nat.zero_le _⟩, ⟨by rw [List.drop_zero]; exact HLS.out, rfl⟩, ⟨by rw [List.append_nil]; exact HT2.out⟩, HY1, HYB, HK1⟩
      case round =>
        clear HT2 HY1 HYB HK1 HXC z2 HLS
        obtain ⟨j, dn, rest, Yj, rfl, HJL, HNR, HJJ, HYJ, HYJB, HKJ⟩ := hrel
        by_cases hj : j < f2.length
        case neg =>
          go_wp2
          go_ret
          have hjl := HJL.out
          obtain ⟨hn, hd⟩ := HNR.out
          rw [List.drop_of_length_le (by omega), nodesLO] at hn
          obtain rfl := Option.some.inj hn
          rw [List.append_nil] at hd
          subst hd
          refine ⟨true, Yj, rfl, fun i h => (HYJ.out i h).imp id Nat.le_of_lt, HYJB.out, HKJ.out, fun _ => ?_, (fun h => by cases h)⟩
          have h := HJJ.out
          rwa [List.append_assoc, List.singleton_append] at h
        have hF2 : Kd.F k27 wr (fun i => Pt i ∧ i < W.heap.size) A2 f2.length f2 := Kd.F_step H2.out (fun i hi hlt => HKJ.out.block i hlt (HTY.out i hi.1))
        have hfm := Kd.F_max hF2
        obtain ⟨ad, cs, hA2, _, hFK, hcs, _⟩ := Kd.F_get hF2 z27 (j : Int) (by omega) (by omega)
        rw [Int.toNat_natCast] at hFK hcs
        obtain ⟨x, hx⟩ : ∃ x, f2.getD j z27 = x := ⟨_, rfl⟩
        rw [hx] at hFK
        obtain ⟨B1, d1, B2, d2, rfl, l1, g1, l2, g2⟩ := k27_openF hFK
        have hxe : f2[j] = x := by rw [← hx, List.getD_eq_getElem?_getD, List.getElem?_eq_getElem hj]; rfl
        obtain ⟨hn, hd⟩ := HNR.out
        rw [List.drop_eq_getElem_cons hj, hxe, nodesLO] at hn
        obtain ⟨y1, hy1, hn⟩ := Option.bind_eq_some_iff.1 hn
        obtain ⟨y2, hy2, hn⟩ := Option.bind_eq_some_iff.1 hn
        have hn := Option.some.inj hn
        have hsz : SizeOf.sizeOf x < n := by
          have h1 := List.sizeOf_lt_of_mem (List.getElem_mem hj)
          rw [hxe] at h1
          have h2 := HT.out
          rw [S27.mk.sizeOf_spec] at h2
          omega
        have hpx : (pre ++ [(q, (⟨r1, r2, r3⟩ : S27))]) ++ dn ++ y1 <+: xs := List.IsPrefix.trans ⟨y2, by rw [← hd, ← hn]; simp⟩ HPRE.out
        have HX := Aside0.mk hpx
        have HY1' := Aside0.mk hy1
        have HY2 := Aside0.mk hy2
        have HND : Aside0 (dn ++ y1 ++ y2 = ls) := ⟨by rw [← hd, ← hn]; simp⟩
        have HSZ := Aside0.mk hsz
        have L1 := Aside0.mk l1
        have G1 := Aside0.mk g1
        have L2 := Aside0.mk l2
        have G2 := Aside0.mk g2
        have k0 : wr.cell? (ad.add (j * 3)) = some (.string x.f0) := hcs 0 _ rfl
        have k1 : wr.cell? ⟨(ad.add (j * 3)).block, (ad.add (j * 3)).off + 1, none⟩ = some (.slice B1 x.f1.length d1) := by rw [← add_field _ _ 1 (by omega)]; exact hcs 1 _ rfl
        have k2 : wr.cell? ⟨(ad.add (j * 3)).block, (ad.add (j * 3)).off + 2, none⟩ = some (.slice B2 x.f2.length d2) := by rw [← add_field _ _ 2 (by omega)]; exact hcs 2 _ rfl
        subst hA2
        clear hF2 hFK hcs hxe hn hd hy1 hy2 hsz hpx l1 g1 l2 g2 hx
        have hj0 : (0 : Int) ≤ (j : Int) := Int.natCast_nonneg _
        have hj1 : (j : Int) < (f2.length : Int) := by omega
        go_upto_region 6 with (fail)
        have hw1 : (wr.alloc (.cells #[.string x.f0, .slice B1 x.f1.length d1, .slice B2 x.f2.length d2] 27)).heap[wr.heap.size]? = some (.cells #[.string x.f0, .slice B1 x.f1.length d1, .slice B2 x.f2.length d2] 27 (0, 0)) := heap_alloc_new _ _
        have hbb := below_alloc (Below.refl wr.heap.size wr) (.cells #[.string x.f0, .slice B1 x.f1.length d1, .slice B2 x.f2.length d2] 27)
        generalize wr.alloc (.cells #[.string x.f0, .slice B1 x.f1.length d1, .slice B2 x.f2.length d2] 27) = w1 at hw1 hbb ⊢
        have yc0 : w1.cell? ⟨wr.heap.size, 0, none⟩ = some (.string x.f0) := (blk_cell hw1 0).trans rfl
        have yc1 : w1.cell? ⟨wr.heap.size, 1, none⟩ = some (.slice B1 x.f1.length d1) := (blk_cell hw1 1).trans rfl
        have yc2 : w1.cell? ⟨wr.heap.size, 2, none⟩ = some (.slice B2 x.f2.length d2) := (blk_cell hw1 2).trans rfl
        have hvc := blk_below (HKJ.out.blk HVC.out HGV.out) hbb
        have yc3 : w1.cell? ⟨gv, 0, none⟩ = some (.func (.func 58) #[] #[.pointer (some ⟨gy, 0, none⟩), .pointer (some ⟨gv, 0, none⟩)]) := (blk_cell hvc 0).trans rfl
        have HVC1 := Aside0.mk hvc
        have HBB := Aside0.mk hbb
        have HW1 := Aside0.mk hw1
        have HPF := Aside0.mk (Kd.F_below (Kd.F_step HP.out (fun i hi hlt => HKJ.out.block i hlt (HPY.out i hi.1))) hbb)
        clear hw1 hbb hvc k0 k1 k2
        have hp0 : (0 : Int) ≤ (p.length : Int) := Int.natCast_nonneg _
        have hpc : (p.length : Int) ≤ (cp : Int) := by have := HCP.out; omega
        go_region_held3 (fun w' => w'.cell? ⟨gv, 0, none⟩ = some (.func (.func 58) #[] #[.pointer (some ⟨gy, 0, none⟩), .pointer (some ⟨gv, 0, none⟩)]) ∧ w'.cell? ⟨wr.heap.size, 0, none⟩ = some (.string x.f0) ∧ w'.cell? ⟨wr.heap.size, 1, none⟩ = some (.slice B1 x.f1.length d1) ∧ w'.cell? ⟨wr.heap.size, 2, none⟩ = some (.slice B2 x.f2.length d2))
          (go_keep)
          (first
          | (refine step_append_path (by rfl) (.tmp 30) (.tmp 32) (by rfl) Ap p (Kd.F_now (Kd.F_below HPF.out (below_alloc (below_drew (Below.refl _ _)) _))) (by rfl) ⟨w1.heap.size, 0, none⟩ (j : Int) (by rfl) (show World.cell? _ ⟨w1.heap.size, 0, none⟩ = _ from (blk_cell (heap_alloc_new _ _) 0).trans rfl) HQL.out ?_
             intro A' c' w2 hR2 hgr2
             have hb2 := (below_alloc (below_drew (Below.refl w1.heap.size w1)) (.cells #[.int .i64 (j : Int)] 3)).trans ((below_of_grown hgr2).mono (by simp))
             have HB2 := Aside0.mk hb2
             have HR2 := Aside0.mk (Kd.R_lower (Kd.R_mono (Kd.R_bound hR2) (ok' := fun i => w1.heap.size ≤ i) (fun i hi => by have h := hi.2.1; simp at h; omega)) (base' := 0) (Nat.zero_le _))
             have z0 : w2.cell? ⟨wr.heap.size, 0, none⟩ = some (.string x.f0) := (blk_cell (blk_below HW1.out hb2) 0).trans rfl
             have z1 : w2.cell? ⟨wr.heap.size, 1, none⟩ = some (.slice B1 x.f1.length d1) := (blk_cell (blk_below HW1.out hb2) 1).trans rfl
             have z2 : w2.cell? ⟨wr.heap.size, 2, none⟩ = some (.slice B2 x.f2.length d2) := (blk_cell (blk_below HW1.out hb2) 2).trans rfl
             have z3 : w2.cell? ⟨gv, 0, none⟩ = some (.func (.func 58) #[] #[.pointer (some ⟨gy, 0, none⟩), .pointer (some ⟨gv, 0, none⟩)]) := (blk_cell (blk_below HVC1.out hb2) 0).trans rfl
             clear hR2 hgr2 hb2)
          | (have hsz2 := HB2.out.size
             have hszb := HBB.out.size
             have hbw := HBB.out.trans (HB2.out.mono hszb)
             have hgy := blk_lt HYC.out
             have hgv := blk_lt HVC.out
             have hw0 := HKJ.out.size
             have hlw := blk_lt HW1.out
             have hih := HIH.out x (p ++ [(j : Int)]) y1 ((pre ++ [(q, (⟨r1, r2, r3⟩ : S27))]) ++ dn) w2 Yj (fun i => w1.heap.size ≤ i) (fun i => Pt i ∧ i < W.heap.size) A' c' B1 d1 B2 d2 HSZ.out HY1'.out HX.out
               (by have := HW.out; omega) (HJ.out _ _ _ _ HJJ.out (KeepS.of_below hbw (fun i hi _ => hi))) (fun i hi => ⟨by have := (HYJB.out i hi).1; omega, (HYJB.out i hi).2⟩)
               (fun h => (HYJ.out gy h).elim HGY.out (fun h => by omega)) (fun h => (HYJ.out gv h).elim HGV.out (fun h => by omega)) (blk_below (HKJ.out.blk HYC.out HGY.out) hbw) (blk_below HVC1.out HB2.out)
               (Kd.R_F HR2.out) (Kd.R_reads' HR2.out).2.1 (fun i hi h => by have := (HYJB.out i h).1; omega) (Kd.F_below G1.out hbw) L1.out (Kd.F_below G2.out hbw) L2.out (fun i hi h => (HYJ.out i h).elim (HTY.out i hi.1) (fun h => by have := hi.2; omega))
             rw [show (p ++ [(j : Int)]).length = p.length + 1 by simp] at hih
             with_reducible refine hih.mono ?_
             rintro e w3 ⟨b, Yn, rfl, q1, q2, q3, q4, q5⟩
             have hbx := q3.blk (blk_below HW1.out HB2.out) (fun h => Nat.lt_irrefl _ (HYJB.out _ h).1)
             have u0 : w3.cell? ⟨wr.heap.size, 0, none⟩ = some (.string x.f0) := (blk_cell hbx 0).trans rfl
             have u1 : w3.cell? ⟨wr.heap.size, 1, none⟩ = some (.slice B1 x.f1.length d1) := (blk_cell hbx 1).trans rfl
             have u2 : w3.cell? ⟨wr.heap.size, 2, none⟩ = some (.slice B2 x.f2.length d2) := (blk_cell hbx 2).trans rfl
             have u3 : w3.cell? ⟨gv, 0, none⟩ = some (.func (.func 58) #[] #[.pointer (some ⟨gy, 0, none⟩), .pointer (some ⟨gv, 0, none⟩)]) := (blk_cell (q3.blk (blk_below HVC1.out HB2.out) (fun h => (HYJ.out gv h).elim HGV.out (fun h => by omega))) 0).trans rfl
             have Q1 : Aside0 (∀ i, Yn i → Y i ∨ W.heap.size < i) := ⟨fun i h => (q1 i h).elim (HYJ.out i) (fun h => .inr (by omega))⟩
             have Q2 := Aside0.mk q2
             have Q3 : Aside0 (KeepS (fun i => ¬ Y i) W w3) := ⟨((HKJ.out.mono (T := fun i => ¬ Y i ∧ i < W.heap.size) (fun i _ h => h.1)).trans ((KeepS.of_below hbw (S := fun i => ¬ Y i ∧ i < W.heap.size) (fun i hi _ => hi)).trans (q3.mono (fun i hi h hy => (HYJ.out i hy).elim h.1 (fun h2 => by have := h.2; omega))))).mono (fun i hi h => ⟨h, hi⟩)⟩
             have Q4 := Aside0.mk q4
             have Q5 := Aside0.mk q5
             clear q1 q2 q3 q4 q5 hih hbx hsz2 hszb hbw hgy hgv hw0 hlw z0 z1 z2 z3))
        clear yc0 yc1 yc2 yc3 u0 u1 u2 u3
        cases b with
        | false =>
          have Q6 := Aside0.mk (Q5.out rfl)
          clear Q4 Q5
          go_wp2
          go_ret
          exact ⟨false, Yn, rfl, fun i h => (Q1.out i h).imp id Nat.le_of_lt, Q2.out, Q3.out, (fun h => by cases h), fun _ => Q6.out⟩
        | true =>
          have Q6 := Aside0.mk (Q4.out rfl)
          clear Q4 Q5
          go_wp2
          go_roundw
          case rel => exact ⟨j + 1, dn ++ y1, y2, Yn, by go_num, ⟨by omega⟩, ⟨HY2.out, HND.out⟩, ⟨by rw [← List.append_assoc]; exact Q6.out⟩, Q1, Q2, Q3⟩
          case measure => simp [intOf]; omega
set_option maxHeartbeats 16000000 in
set_option maxRecDepth 100000 in
theorem nodes1_iter (k cb N : Nat) (f0 : ByteArray) (f1 : List Int) (f2 : List S27) (A1 : Option Addr) (c1 : Nat) (A2 : Option Addr) (c2 : Nat) (w : World) (hcb : w.heap[cb]? = some (.cells #[.string f0, .slice A1 f1.length c1, .slice A2 f2.length c2] 27 (0, 0)))
    (h1 : Kd.F (Kd.int .i64) w (fun i => i < N) A1 f1.length f1) (hc1 : f1.length ≤ c1) (h2 : Kd.F k27 w (fun i => i < N) A2 f2.length f2) (hc2 : f2.length ≤ c2) (hN : N ≤ w.heap.size) (xs : List (List Int × S27)) (h : nodesO k [] ⟨f0, f1, f2⟩ = some xs) :
    IterC Try.prog 57 #[.pointer (some ⟨cb, 0, none⟩)] (fun x vs S A => ∃ v u, vs = #[v, u] ∧ relT N x v u S A) (fun i => i = cb ∨ i < N) w xs := by
  intro l J Jx Y W hW hY hJ hJx hR h0
  have hmf : ∀ (fn : Fn) (first cap : Array Value) (w : World), (Instr.makeFunc fn first cap).run Try.prog w = .ok (.func fn first cap) w := fun _ _ _ _ => rfl
  have hsf := fun (w : World) (a : Addr) (fn : Fn) (fi ca : Array Value) (m : Mode) => run_store Try.prog w a (.func fn fi ca) m rfl
  have hcW := blk_below hcb hW
  have h1W := Kd.F_below h1 hW
  have h2W := Kd.F_below h2 hW
  have hcbl := blk_lt hcb
  have hWs := hW.size
  have hu27 := Try.underlying27
  have HIT := Aside0.mk (fun gy gv => visit_any k l N J Jx (fun i => i = cb ∨ i < N) W.heap.size xs (Nat.le_trans hN hW.size) (fun i hi h => h.elim (fun h => by omega) (fun h => by omega)) hJ hR gy gv (SizeOf.sizeOf (⟨f0, f1, f2⟩ : S27) + 1) ⟨f0, f1, f2⟩ [] xs [])
  have x0 : W.cell? ⟨cb, 0, none⟩ = some (.string f0) := (blk_cell hcW 0).trans rfl
  have x1 : W.cell? ⟨cb, 1, none⟩ = some (.slice A1 f1.length c1) := (blk_cell hcW 1).trans rfl
  have x2 : W.cell? ⟨cb, 2, none⟩ = some (.slice A2 f2.length c2) := (blk_cell hcW 2).trans rfl
  have HJ := Aside0.mk hJ
  have HY := Aside0.mk hY
  have H0 := Aside0.mk h0
  have H1 := Aside0.mk h1W
  have H2 := Aside0.mk h2W
  have HC1 := Aside0.mk hc1
  have HC2 := Aside0.mk hc2
  have HH := Aside0.mk h
  have HNN := Aside0.mk hN
  clear hcb h1 h2 h1W h2W hcW hW hY hJ hJx hR h0 hc1 hc2 h hN
  show Calls Try.prog 57 #[.func (.yield l) #[] #[], .pointer (some ⟨cb, 0, none⟩)] W _
  go_enter Try.func57, Try.ntmps57
  go_upto_region 3 with (fail)
  have hgy : ((W.alloc (.cells #[.func (.yield l) #[] #[]] 61)).alloc (.cells #[.func (.func 58) #[] #[.pointer (some ⟨W.heap.size, 0, none⟩), .pointer (some ⟨W.heap.size + 1, 0, none⟩)]] 61)).heap[W.heap.size]? = some (.cells #[.func (.yield l) #[] #[]] 61 (0, 0)) := blk_alloc (heap_alloc_new W _) _
  have hgv : ((W.alloc (.cells #[.func (.yield l) #[] #[]] 61)).alloc (.cells #[.func (.func 58) #[] #[.pointer (some ⟨W.heap.size, 0, none⟩), .pointer (some ⟨W.heap.size + 1, 0, none⟩)]] 61)).heap[W.heap.size + 1]? = some (.cells #[.func (.func 58) #[] #[.pointer (some ⟨W.heap.size, 0, none⟩), .pointer (some ⟨W.heap.size + 1, 0, none⟩)]] 61 (0, 0)) := by
    have h := heap_alloc_new (W.alloc (.cells #[.func (.yield l) #[] #[]] 61)) (.cells #[.func (.func 58) #[] #[.pointer (some ⟨W.heap.size, 0, none⟩), .pointer (some ⟨W.heap.size + 1, 0, none⟩)]] 61)
    rwa [World.size_alloc] at h
  have hbb : Below W.heap.size W ((W.alloc (.cells #[.func (.yield l) #[] #[]] 61)).alloc (.cells #[.func (.func 58) #[] #[.pointer (some ⟨W.heap.size, 0, none⟩), .pointer (some ⟨W.heap.size + 1, 0, none⟩)]] 61)) := below_alloc (below_alloc (Below.refl _ _) _) _
  clear hsf
  generalize (W.alloc (.cells #[.func (.yield l) #[] #[]] 61)).alloc (.cells #[.func (.func 58) #[] #[.pointer (some ⟨W.heap.size, 0, none⟩), .pointer (some ⟨W.heap.size + 1, 0, none⟩)]] 61) = W3 at hgy hgv hbb ⊢
  have y0 : (W3.alloc (.cells #[] 3)).cell? ⟨cb, 0, none⟩ = some (.string f0) := ((below_alloc hbb _).cell (p := ⟨cb, 0, none⟩) (by show cb < W.heap.size; omega)).trans x0
  have y1 : (W3.alloc (.cells #[] 3)).cell? ⟨cb, 1, none⟩ = some (.slice A1 f1.length c1) := ((below_alloc hbb _).cell (p := ⟨cb, 1, none⟩) (by show cb < W.heap.size; omega)).trans x1
  have y2 : (W3.alloc (.cells #[] 3)).cell? ⟨cb, 2, none⟩ = some (.slice A2 f2.length c2) := ((below_alloc hbb _).cell (p := ⟨cb, 2, none⟩) (by show cb < W.heap.size; omega)).trans x2
  have y3 : W3.cell? ⟨W.heap.size + 1, 0, none⟩ = some (.func (.func 58) #[] #[.pointer (some ⟨W.heap.size, 0, none⟩), .pointer (some ⟨W.heap.size + 1, 0, none⟩)]) := (blk_cell hgv 0).trans rfl
  have hs3 := hbb.size
  have hcall := fun (c : Nat) (o : Obj) (B : Nat) => HIT.out W.heap.size (W.heap.size + 1) (W3.alloc o) Y (fun _ => False) (fun i => i < N) (some ⟨B, 0, none⟩) c A1 c1 A2 c2 (Nat.lt_succ_self _) HH.out (by rw [List.nil_append]; exact List.prefix_refl _) (by simp; omega)
    (HJ.out _ _ _ _ H0.out (KeepS.of_below (below_alloc hbb o) (fun i hi _ => hi))) (fun i hi => ⟨by have := (HY.out i hi).1; simp; omega, (HY.out i hi).2⟩) (fun h => Nat.lt_irrefl _ (HY.out _ h).1) (fun h => by have := (HY.out _ h).1; omega)
    (blk_alloc hgy o) (blk_alloc hgv o) (fun _ _ => ⟨rfl, Nat.zero_le _, fun h => absurd h (Nat.lt_irrefl _)⟩) (Nat.zero_le _) (fun _ h => h.elim) (Kd.F_below H1.out (below_alloc hbb o)) HC1.out (Kd.F_below H2.out (below_alloc hbb o)) HC2.out (fun i hi h => (HY.out i h).2 (.inr hi))
  dsimp only [List.length_nil] at hcall
  have HCALL := Aside0.mk hcall
  have HS3 := Aside0.mk hs3
  clear x0 x1 x2 hgy hgv hbb hs3 hcall HIT
  go_wp2_with ((with_reducible refine (HCALL.out _ _ _).mono ?_); rintro e w4 ⟨b, Y', rfl, g1, g2, g3, g4, g5⟩; have G3 := Aside0.mk g3.size; have G4 := Aside0.mk g4; have G5 := Aside0.mk g5; clear g1 g2 g3 g4 g5)
  go_end0
  have hsz := G3.out
  rw [World.size_alloc] at hsz
  have hs3 := HS3.out
  refine ⟨⟨_, rfl⟩, by omega, Y', ?_⟩
  cases b with
  | true => exact .inl (G4.out rfl)
  | false => exact .inr (G5.out rfl)
set_option maxHeartbeats 8000000 in
set_option maxRecDepth 100000 in
theorem Nodes_any (f0 : ByteArray) (f1 : List Int) (f2 : List S27) (A1 : Option Addr) (c1 : Nat) (A2 : Option Addr) (c2 : Nat) (w : World) :
    Calls Try.prog 42 #[.agg #[.string f0, .slice A1 f1.length c1, .slice A2 f2.length c2]] w fun e w' => ∃ cb, e = .returned (.func (.func 57) #[] #[.pointer (some ⟨cb, 0, none⟩)]) ∧ w.heap.size ≤ cb ∧ w'.heap[cb]? = some (.cells #[.string f0, .slice A1 f1.length c1, .slice A2 f2.length c2] 27 (0, 0)) ∧ Below w.heap.size w w' := by
  have hu27 := Try.underlying27
  have hmf : ∀ (fn : Fn) (first cap : Array Value) (w : World), (Instr.makeFunc fn first cap).run Try.prog w = .ok (.func fn first cap) w := fun _ _ _ _ => rfl
  go_enter Try.func42, Try.ntmps42
  go_wp2
  go_ret
  exact ⟨_, rfl, Nat.le_refl _, heap_alloc_new _ _, below_alloc (Below.refl _ _) _⟩
theorem below_putObj {B : Nat} {w W : World} (h : Below B w W) {D : Nat} (hD : B ≤ D) (o : Obj) : Below B w (W.putObj D o) := ⟨h.os, h.tape, h.output, by rw [World.putObj_size]; exact h.size, fun k hk => (World.putObj_heap_other (by omega)).trans (h.block k hk)⟩
/-- Is a tree a pronoun? -/
def prB (x : S27) : Bool := (anaphora_pronoun.f x.f0 x.f1 x.f2).getD false
theorem prB_eq (x : S27) : anaphora_pronoun.f x.f0 x.f1 x.f2 = some (prB x) := by
  unfold prB anaphora_pronoun.f
  split <;> rfl
/-- What a loop variable's block holds of a tree that was handed over. -/
def HasT (A : World) (b : Nat) (x : S27) : Prop := ∃ B1 c1 B2 c2, A.heap[b]? = some (.cells #[.string x.f0, .slice B1 x.f1.length c1, .slice B2 x.f2.length c2] 27 (0, 0)) ∧ Kd.R (Kd.int .i64) 3 A 0 (fun _ => True) (.slice B1 x.f1.length c1) x.f1 ∧ Kd.R k27 27 A 0 (fun _ => True) (.slice B2 x.f2.length c2) x.f2
theorem HasT.put {A : World} {b : Nat} {x : S27} (h : HasT A b x) {l : Nat} {r : Loop} (hl : A.heap[l]? = some (.loop r)) (o : Obj) : HasT (World.putObj A l o) b x := by
  obtain ⟨B1, c1, B2, c2, h0, h1, h2⟩ := h
  exact ⟨B1, c1, B2, c2, (World.putObj_heap_other (by rintro rfl; rw [hl] at h0; cases h0)).trans h0, R_putLoop h1 hl o, R_putLoop h2 hl o⟩
def anaphora_Pronouns.f (k : Nat) (a0_0 : ByteArray) (l0_1 : List Int) (l0_2 : List S27) : Option Int := (nodesO k [] ⟨a0_0, l0_1, l0_2⟩).bind fun xs => if xs.length ≤ 1000000 then some ((xs.countP (fun x => prB x.2) : Nat) : Int) else none
theorem anaphora_Pronouns.mono (a0_0 : ByteArray) (l0_1 : List Int) (l0_2 : List S27) (k : Nat) : LeO (anaphora_Pronouns.f k a0_0 l0_1 l0_2) (anaphora_Pronouns.f (k + 1) a0_0 l0_1 l0_2) := LeO.bind (nodesO_mono k _ _) (fun _ => LeO.refl _)
set_option maxHeartbeats 16000000 in
set_option maxRecDepth 100000 in
theorem anaphora_Pronouns.calls (k : Nat) (a0_0 : ByteArray) (A0_1 : Option Addr) (c0_1 : Nat) (l0_1 : List Int) (A0_2 : Option Addr) (c0_2 : Nat) (l0_2 : List S27) (r : Int) (w : World) (hr0_1 : Kd.C (Kd.int .i64) w A0_1 l0_1.length l0_1) (hc0_1 : l0_1.length ≤ c0_1) (hr0_2 : Kd.C k27 w A0_2 l0_2.length l0_2) (hc0_2 : l0_2.length ≤ c0_2) (h : anaphora_Pronouns.f k a0_0 l0_1 l0_2 = some r) :
    Calls Try.prog 20 #[.agg #[.string a0_0, .slice A0_1 l0_1.length c0_1, .slice A0_2 l0_2.length c0_2]] w fun e w' => e = .returned (.int .i64 r) ∧ Below w.heap.size w w' := by
  obtain ⟨xs, hxs, h2⟩ := Option.bind_eq_some_iff.1 h
  by_cases hlx : xs.length ≤ 1000000
  case neg => rw [if_neg hlx] at h2; cases h2
  rw [if_pos hlx] at h2
  obtain rfl := Option.some.inj h2
  clear h h2
  have hu27 := Try.underlying27
  have HF1 := Aside0.mk (Kd.C_F (Kd.heap_int .i64) hr0_1)
  have HF2 := Aside0.mk (Kd.C_F k27_heap hr0_2)
  have HC1 := Aside0.mk hc0_1
  have HC2 := Aside0.mk hc0_2
  have HX := Aside0.mk hxs
  have HLX := Aside0.mk hlx
  clear hr0_1 hr0_2 hc0_1 hc0_2 hxs hlx
  refine calls_of_wp_marks Try.func20 rfl ?_
  simp only [Try.ntmps20, List.size_toArray, List.length_cons, List.length_nil, Nat.reduceAdd, Nat.reduceSub, Array.replicate_succ, Array.replicate_zero, List.push_toArray, List.append_toArray, List.nil_append, List.cons_append]
  go_upto_region 2 with (fail)
  have hnb : ((w.alloc (.cells #[.string a0_0, .slice A0_1 l0_1.length c0_1, .slice A0_2 l0_2.length c0_2] 27)).alloc (.cells #[.int .i64 0] 3)).heap[w.heap.size + 1]? = some (.cells #[.int .i64 0] 3 (0, 0)) := by
    have h := heap_alloc_new (w.alloc (.cells #[.string a0_0, .slice A0_1 l0_1.length c0_1, .slice A0_2 l0_2.length c0_2] 27)) (.cells #[.int .i64 0] 3)
    rwa [World.size_alloc] at h
  have htb : ((w.alloc (.cells #[.string a0_0, .slice A0_1 l0_1.length c0_1, .slice A0_2 l0_2.length c0_2] 27)).alloc (.cells #[.int .i64 0] 3)).heap[w.heap.size]? = some (.cells #[.string a0_0, .slice A0_1 l0_1.length c0_1, .slice A0_2 l0_2.length c0_2] 27 (0, 0)) := blk_alloc (heap_alloc_new _ _) _
  have hbb : Below w.heap.size w ((w.alloc (.cells #[.string a0_0, .slice A0_1 l0_1.length c0_1, .slice A0_2 l0_2.length c0_2] 27)).alloc (.cells #[.int .i64 0] 3)) := below_alloc (below_alloc (Below.refl _ _) _) _
  generalize (w.alloc (.cells #[.string a0_0, .slice A0_1 l0_1.length c0_1, .slice A0_2 l0_2.length c0_2] 27)).alloc (.cells #[.int .i64 0] 3) = w1 at hnb htb hbb ⊢
  have y0 : w1.cell? ⟨w.heap.size, 0, none⟩ = some (.string a0_0) := (blk_cell htb 0).trans rfl
  have y1 : w1.cell? ⟨w.heap.size, 1, none⟩ = some (.slice A0_1 l0_1.length c0_1) := (blk_cell htb 1).trans rfl
  have y2 : w1.cell? ⟨w.heap.size, 2, none⟩ = some (.slice A0_2 l0_2.length c0_2) := (blk_cell htb 2).trans rfl
  have HNB := Aside0.mk hnb
  have HBB := Aside0.mk hbb
  clear hnb htb hbb
  go_wp2_with ((with_reducible refine (Nodes_any a0_0 l0_1 l0_2 A0_1 c0_1 A0_2 c0_2 _).mono ?_); rintro e w2 ⟨cb, rfl, hcb, hcc, hb2⟩; have HNB2 := Aside0.mk (blk_below HNB.out hb2); have HCC := Aside0.mk hcc; have HB2 := Aside0.mk (HBB.out.trans (hb2.mono HBB.out.size)); have HCB := Aside0.mk hcb; clear hcb hcc hb2 y0 y1 y2)
  have hcb : w1.heap.size ≤ cb := HCB.out
  have hcl := blk_lt HCC.out
  have hn2 := blk_lt HNB2.out
  have hn1 := blk_lt HNB.out
  have hs2 := HB2.out.size
  refine wp_rangeFunc_iter (gf := 57) (lb := #[.pointer (some ⟨cb, 0, none⟩)]) (Rel := fun x vs S A => ∃ v u, vs = #[v, u] ∧ relT w.heap.size x v u S A) (Z := fun i => i = cb ∨ i < w.heap.size) (w0 := w2) (xs := xs) rfl (enters_of Try.func57 (by kernel_rfl) rfl)
    (nodes1_iter k cb w.heap.size a0_0 l0_1 l0_2 A0_1 c0_1 A0_2 c0_2 w2 HCC.out (Kd.F_below HF1.out HB2.out) HC1.out (Kd.F_below HF2.out HB2.out) HC2.out HB2.out.size xs HX.out) (Below.refl _ _)
    (by rintro x vs S A ⟨v, u, rfl, _⟩; rfl) (by rintro x vs S A l r o ⟨v, u, rfl, h⟩ hl; exact ⟨v, u, rfl, relT_put _ _ _ _ _ _ _ _ _ h hl⟩)
    (fun Y pre W => Y (w.heap.size + 1) ∧ (∀ i, Y i → i = w.heap.size + 1) ∧ W.heap[w.heap.size + 1]? = some (.cells #[.int .i64 ((pre.countP (fun x => prB x.2) : Nat) : Int)] 3 (0, 0)) ∧ Below w.heap.size w W) (fun _ _ _ _ => False) ?hI (fun _ _ _ _ _ h _ => h)
    (fun i => i = w.heap.size + 1) ?Y0 ?hZ ⟨rfl, fun _ h => h, HNB2.out, HB2.out⟩
    (fun x vs a' A => ∃ v u b, vs = #[v, u] ∧ HasT A b x.2 ∧ a' = putAll { tmps := #[.agg #[.string a0_0, .slice A0_1 l0_1.length c0_1, .slice A0_2 l0_2.length c0_2], .pointer (some ⟨w.heap.size, 0, none⟩), .int .i64 0, .pointer (some ⟨w.heap.size + 1, 0, none⟩), undef, undef, .agg #[.string a0_0, .slice A0_1 l0_1.length c0_1, .slice A0_2 l0_2.length c0_2], .func (.func 57) #[] #[.pointer (some ⟨cb, 0, none⟩)], undef, undef, undef, undef, undef, undef, undef], defers := [] } [(8, v), (9, u), (5, .pointer (some ⟨b, 0, none⟩))]) ?hAx ?assign ?body ?done (fun _ _ _ _ _ _ _ h _ => h.elim)
  case hI =>
    rintro Y pre A B ⟨hy, hy0, hn, hb⟩ hk
    exact ⟨hy, hy0, hk.blk hn (.inr hy), hb.trans (hk.below hb.size (fun i hi => .inl (by omega)))⟩
  case Y0 => rintro i rfl; exact ⟨hn2, fun h => h.elim (fun h => by omega) (fun h => by omega)⟩
  case hZ => exact fun i hi h => h.elim (fun h => by omega) (fun h => by omega)
  case hAx => rintro x vs a' A l r o ⟨v, u, b, e, hT, ha⟩ hl; exact ⟨v, u, b, e, hT.put hl o, ha⟩
  case assign =>
    rintro l x vs S A K ⟨v, u, rfl, h0, v1, v2, rfl, h1, h2⟩ hK
    obtain ⟨B1, d1, rfl⟩ := Kd.R_slice h1
    obtain ⟨B2, d2, rfl⟩ := Kd.R_slice h2
    have hK2 := hK { tmps := #[.agg #[.string a0_0, .slice A0_1 l0_1.length c0_1, .slice A0_2 l0_2.length c0_2], .pointer (some ⟨w.heap.size, 0, none⟩), .int .i64 0, .pointer (some ⟨w.heap.size + 1, 0, none⟩), undef, .pointer (some ⟨A.heap.size, 0, none⟩), .agg #[.string a0_0, .slice A0_1 l0_1.length c0_1, .slice A0_2 l0_2.length c0_2], .func (.func 57) #[] #[.pointer (some ⟨cb, 0, none⟩)], v, .agg #[.string x.2.f0, .slice B1 x.2.f1.length d1, .slice B2 x.2.f2.length d2], undef, undef, undef, undef, undef], defers := [] } (A.alloc (.cells #[.string x.2.f0, .slice B1 x.2.f1.length d1, .slice B2 x.2.f2.length d2] 27)) (below_alloc (Below.refl _ _) _)
      ⟨_, _, rfl, Kd.R_below h0 (below_alloc (Below.refl _ _) _), _, _, rfl, Kd.R_below h1 (below_alloc (Below.refl _ _) _), Kd.R_below h2 (below_alloc (Below.refl _ _) _)⟩
      ⟨_, _, A.heap.size, rfl, ⟨B1, d1, B2, d2, heap_alloc_new _ _, Kd.R_lower (Kd.R_mono (Kd.R_below h1 (below_alloc (Below.refl _ _) _)) (fun _ _ => trivial)) (Nat.zero_le _), Kd.R_lower (Kd.R_mono (Kd.R_below h2 (below_alloc (Below.refl _ _) _)) (fun _ _ => trivial)) (Nat.zero_le _)⟩, rfl⟩
    have HK2 := Aside0.mk hK2
    clear hK hK2 h0 h1 h2
    refine wpIn_region_of (r := some l) (by intro a w h; exact h) (by simp) ?_
    go_wp2
    exact HK2.out
  case body =>
    rintro l m Y pre x vs S a' A hpre ⟨hy, hy0, hn, hb⟩ _ ⟨v, u, b, _, hT, rfl⟩ hl hlm hm hY hS
    obtain ⟨B1, d1, B2, d2, hbx, h1, h2⟩ := hT
    simp only [putAll, Act.put, List.setIfInBounds_toArray, List.set_cons_zero, List.set_cons_succ]
    have x0 : A.cell? ⟨b, 0, none⟩ = some (.string x.2.f0) := (blk_cell hbx 0).trans rfl
    have x1 : A.cell? ⟨b, 1, none⟩ = some (.slice B1 x.2.f1.length d1) := (blk_cell hbx 1).trans rfl
    have x2 : A.cell? ⟨b, 2, none⟩ = some (.slice B2 x.2.f2.length d2) := (blk_cell hbx 2).trans rfl
    have a43 := anaphora_pronoun.calls x.2.f0 B1 d1 x.2.f1 B2 d2 x.2.f2 (prB x.2) A (Kd.R_reads' h1).2.2 (Kd.R_reads' h1).2.1 (Kd.R_reads' h2).2.2 (Kd.R_reads' h2).2.1 (prB_eq x.2)
    have hpl := hpre.length_le
    rw [List.length_append, List.length_singleton] at hpl
    have hpl2 : pre.length ≤ 1000000 := by have := HLX.out; omega
    have hcl : pre.countP (fun x => prB x.2) ≤ 1000000 := Nat.le_trans List.countP_le_length hpl2
    obtain ⟨cn, hcn⟩ : ∃ cn, pre.countP (fun x => prB x.2) = cn := ⟨_, rfl⟩
    rw [hcn] at hn hcl
    have HCN := Aside0.mk hcn
    have HN := Aside0.mk hn
    have HB := Aside0.mk hb
    have HA := Aside0.mk a43
    clear hpre hpl hcn hn hb a43 h1 h2 hbx
    refine wpIn_block ?_
    refine wpIn_seq ?_
    refine wpIn_region_of (r := some l) (by rintro a w ⟨Y', h1, h2, h3, h⟩; exact h) (by simp) ?_
    go_wp2_with ((with_reducible refine HA.out.mono ?_); rintro e w3 ⟨rfl, hb3⟩; have HB3 := Aside0.mk hb3; clear hb3)
    have hn3 := blk_below HN.out HB3.out
    clear x0 x1 x2
    obtain ⟨bx, hbx⟩ : ∃ bx, prB x.2 = bx := ⟨_, rfl⟩
    have HBX := Aside0.mk hbx
    simp only [hbx]
    clear hbx
    cases bx with
    | true =>
      refine wpIn_cond_true rfl ?_
      refine wpIn_region_of (r := some l) (by rintro a w ⟨Y', h1, h2, h3, h⟩; exact h) (by simp) ?_
      have z0 : w3.cell? ⟨w.heap.size + 1, 0, none⟩ = some (.int .i64 (cn : Int)) := (blk_cell hn3 0).trans rfl
      have f0 := blk_frozen hn3 0
      have HN3 := Aside0.mk hn3
      clear hn3
      go_wp2
      have hs3 := HB3.out.size
      refine ⟨Y, fun i hi => .inl hi, fun i hi => by have := (hY i hi).1; simp [World.setCell]; omega, (KeepS.of_below HB3.out (fun i hi _ => hi)).trans (KeepS.set_ _ _ _ (fun h => h.2.1 hy)), hy, hy0, ?_, ((HB.out.trans (HB3.out.mono HB.out.size)).setCell (p := ⟨w.heap.size + 1, 0, none⟩) (by show w.heap.size ≤ w.heap.size + 1; omega) _)⟩
      rw [List.countP_append, HCN.out, List.countP_singleton, HBX.out, if_pos rfl]
      exact blk_put HN3.out 0 _ rfl
    | false =>
      refine wpIn_cond_false rfl ?_
      refine wpIn_skip ?_
      have hs3 := HB3.out.size
      refine ⟨Y, fun i hi => .inl hi, fun i hi => by have := (hY i hi).1; omega, KeepS.of_below HB3.out (fun i hi _ => hi), hy, hy0, ?_, HB.out.trans (HB3.out.mono HB.out.size)⟩
      rw [List.countP_append, HCN.out, List.countP_singleton, HBX.out, if_neg (by decide)]
      exact hn3
  case done =>
    rintro D Y W hD ⟨hy, hy0, hn, hb⟩ hK
    have x0 : W.cell? ⟨w.heap.size + 1, 0, none⟩ = some (.int .i64 ((xs.countP (fun x => prB x.2) : Nat) : Int)) := (blk_cell hn 0).trans rfl
    have HB := Aside0.mk hb
    have HK := Aside0.mk hK
    clear hb hK hn
    go_wp2
    exact leavesM_mark HK.out (leavesM_nil (v := .int .i64 ((xs.countP (fun x => prB x.2) : Nat) : Int)) (by simp [results, Try.results20, go_sem]) ⟨rfl, below_putObj HB.out (by omega) _⟩)

end Go.Proofs.Ytfampmajmbediaa.P
