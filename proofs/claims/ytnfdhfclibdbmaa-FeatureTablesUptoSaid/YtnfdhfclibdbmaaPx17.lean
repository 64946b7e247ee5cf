-- Written by the session's own program wip/tools/xprint.py out of the translation, with the kit's print.py on a scratch copy; functions given by hand stand among them.
import Derived.Test.YtnfdhfclibdbmaaPx0
import Derived.Test.YtnfdhfclibdbmaaPx3
import Derived.Test.YtnfdhfclibdbmaaPx4
import Derived.Test.YtnfdhfclibdbmaaPx7
namespace Go.Proofs.Ytnfdhfclibdbmaa.P
open Go.RowKit Go.Proofs.YtnfdhfclibdbmaaW.PrintWords Go.Proofs.YtnfdhfclibdbmaaW.PrintLast Go.Proofs.YtnfdhfclibdbmaaW.PrintMore
attribute [local go_sem] max2_int min2_int max_two min_two max_three min_three max_four min_four   -- for this text's walks alone
set_option linter.unusedVariables false
set_option linter.unusedSimpArgs false

/-! ### pentaglotlaw02_FeatureTables: function 9, by hand -/
-- leans on 17 27 31 49 12 13 29
theorem info70 : (Try.prog.info? 70).map (fun i => (i.zero, i.size, i.bytes)) = some (some (.agg #[.slice none 0 0, .int .i64 0]), 2, 32) := by kernel_rfl
theorem step_append70 {ops : Array Oper} {o : Oper} {a : Act} {w : World} {K : Act → World → Prop} {Q : Exit → Act → World → Prop} (hw : Region.wanted o (yielded ops a.tmps) = true) (s x : Operand) (hop : o.op = Op.call { callee := Callee.builtin Builtin.append, args := #[s, x], argTypes := #[65, 65] })
    (N b : Nat) (Av : Option Addr) (cv : Nat) (es : List S70) (l0 : List S33) (n : Int) (A1 : Option Addr) (c1 : Nat) (W : World) (hs : a.eval s = .slice Av es.length cv) (hx : a.eval x = .slice (some ⟨w.heap.size, 0, none⟩) 1 1)
    (hB : W.heap[b]? = some (.cells #[.slice Av es.length cv] 67 (0, 0))) (hV : Kd.R k70 70 W N (fun _ => True) (.slice Av es.length cv) es) (hN : N ≤ W.heap.size) (he : es.length ≤ 1000) (h1 : Kd.R k33 33 w W.heap.size (fun _ => True) (.slice A1 l0.length c1) l0) (hb : Below W.heap.size W w)
    (hK : ∀ (v2 : Value) (w2 : World), w2.heap[b]? = some (.cells #[.slice Av es.length cv] 67 (0, 0)) → Kd.R k70 70 w2 N (fun _ => True) v2 (es ++ [⟨l0, n⟩]) → KeepS (fun i => some i ≠ (Value.slice Av es.length cv).ownBlock) W w2 → K (a.put o.dst v2) w2) :
    if Region.wanted o (yielded ops a.tmps) = true then Oper.wp Try.prog o a (w.alloc (.cells #[.slice A1 l0.length c1, .int .i64 n] 70)) K Q else K (a.put o.dst undef) (w.alloc (.cells #[.slice A1 l0.length c1, .int .i64 n] 70)) := by
  refine Kd.R_append_step k70 (w0 := W) N hw s x 65 70 (.agg #[.slice none 0 0, .int .i64 0]) 32 hop Try.underlying65 info70 rfl (by decide) (by omega) (.slice Av es.length cv) es (⟨l0, n⟩ : S70) [.slice A1 l0.length c1, .int .i64 n] (fun _ => True) (fun k => W.heap.size ≤ k) hs hx (k70_mkM _ _ _ (⟨l0, n⟩ : S70) (Kd.R_lower (Kd.R_mono (Kd.R_bound h1) (fun k hk => hk.2.1)) hN))
    (fun k hk => ⟨trivial, fun he => by have := Kd.R_lt hV k he.symm; omega⟩) (fun _ _ => trivial) (Kd.R_below hV hb) (hb.mono hN) (Nat.le_trans hN hb.size) (by omega) ?_
  intro v2 w2 ho hb2 hg hat
  refine hK v2 w2 (blk_grown (blk_below hB hb) hg (Kd.R_ne (Kd.R_below hV hb) (blk_below hB hb) (by decide))) ho ?_
  exact (KeepS.of_below hb (fun i hi _ => hi)).trans ⟨hg.os, hg.tape, hg.output, hg.size, fun i hi hs => hg.block i hi hs⟩
set_option maxHeartbeats 8000000 in
set_option maxRecDepth 100000 in
theorem Add_any (N b : Nat) (v : Value) (es : List S70) (A0 : Option Addr) (c0 : Nat) (l0 : List S33) (x : Int) (W : World) (hb : W.heap[b]? = some (.cells #[v] 67 (0, 0))) (hv : Kd.R k70 70 W N (fun _ => True) v es) (hN : N ≤ W.heap.size) (he : es.length ≤ 1000)
    (hr0 : Kd.C k33 W A0 l0.length l0) (hc0 : l0.length ≤ c0) (hl : l0.length < 4398046511104) :
    Calls Try.prog 28 #[.pointer (some ⟨b, 0, none⟩), .slice A0 l0.length c0, .int .i64 x] W fun e w' => (∃ u, e = .returned u) ∧ ∃ v', w'.heap[b]? = some (.cells #[v'] 67 (0, 0)) ∧ Kd.R k70 70 w' N (fun _ => True) v' (es ++ [⟨l0, x⟩]) ∧ KeepS (fun i => i ≠ b ∧ some i ≠ v.ownBlock) W w' := by
  have hc49 := fun (W1 : World) (h : Below W.heap.size W W1) => api_Feature_49.calls A0 c0 l0 l0 W1 (Kd.C_below hr0 h) hc0 (by unfold api_Feature_49.f; rw [if_pos hl])
  have y0 : W.cell? ⟨b, 0, none⟩ = some v := (blk_cell hb 0).trans rfl
  have f0 := blk_frozen hb 0
  obtain ⟨Av, cv, rfl⟩ := Kd.R_slice hv
  have HB := Aside0.mk hb
  have HV := Aside0.mk hv
  have HN := Aside0.mk hN
  have HE := Aside0.mk he
  have hu67 := Try.underlying67
  have hu70 := Try.underlying70
  clear hb hv hN he hr0 hc0 hl
  go_enter Try.func28, Try.ntmps28
  refine start_ (n := 14) (S := fun w' => w'.cell? ⟨b, 0, none⟩ = some (.slice Av es.length cv)) (ds := [13]) #[false, false, false, false, false, false, false, false, false, false, false, false, false, false] (by kernel_rfl) rfl rfl (y0) (fun hHeld => ?_)
  refine pure_ (i := 0) (N := some 6) (v := ?_) (a' := ?_) #[true, false, false, false, false, false, false, false, false, false, false, false, false, false] rfl rfl (by kernel_rfl) (fun _ _ _ h => h) (Or.inl ⟨by rfl, ?_⟩) ?_ ?_
  rotate_left
  · intro w'
    go_simp
    with_reducible rfl
  rotate_left
  · simp only [Act.put, List.setIfInBounds_toArray, List.set_cons_zero, List.set_cons_succ, i64_w, i32_w]
    rfl
  refine pure_ (i := 1) (N := some 7) (v := ?_) (a' := ?_) #[true, true, false, false, false, false, false, false, false, false, false, false, false, false] rfl rfl (by kernel_rfl) (fun _ _ _ h => h) (Or.inl ⟨by rfl, ?_⟩) ?_ ?_
  rotate_left
  · intro w'
    go_simp
    with_reducible rfl
  rotate_left
  · simp only [Act.put, List.setIfInBounds_toArray, List.set_cons_zero, List.set_cons_succ, i64_w, i32_w]
    rfl
  refine pure_ (i := 2) (N := some 8) (v := ?_) (a' := ?_) #[true, true, true, false, false, false, false, false, false, false, false, false, false, false] rfl rfl (by kernel_rfl) (fun _ _ _ h => h) (Or.inl ⟨by rfl, ?_⟩) ?_ ?_
  rotate_left
  · intro w'
    go_simp
    with_reducible rfl
  rotate_left
  · simp only [Act.put, List.setIfInBounds_toArray, List.set_cons_zero, List.set_cons_succ, i64_w, i32_w]
    rfl
  refine pure_ (i := 3) (N := some 9) (v := ?_) (a' := ?_) #[true, true, true, true, false, false, false, false, false, false, false, false, false, false] rfl rfl (by kernel_rfl) (fun _ _ _ h => h) (Or.inl ⟨by rfl, ?_⟩) ?_ ?_
  rotate_left
  · intro w'
    go_simp
    with_reducible rfl
  rotate_left
  · simp only [Act.put, List.setIfInBounds_toArray, List.set_cons_zero, List.set_cons_succ, i64_w, i32_w]
    rfl
  refine take_ (i := 4) (N := some 10) (v := ?_) (a' := ?_) #[true, true, true, true, true, false, false, false, false, false, false, false, false, false] rfl rfl (by kernel_rfl) (fun _ _ _ h => h) (Or.inl ⟨by rfl, ?_⟩) hHeld ?_ ?_
  rotate_left
  · rintro w' s0
    go_simp
    with_reducible rfl
  rotate_left
  · simp only [Act.put, List.setIfInBounds_toArray, List.set_cons_zero, List.set_cons_succ, i64_w, i32_w]
    rfl
  refine pure_ (i := 5) (N := some 11) (v := ?_) (a' := ?_) #[true, true, true, true, true, true, false, false, false, false, false, false, false, false] rfl rfl (by kernel_rfl) (fun _ _ _ h => h) (Or.inl ⟨by rfl, ?_⟩) ?_ ?_
  rotate_left
  · intro w'
    go_simp
    with_reducible rfl
  rotate_left
  · simp only [Act.put, List.setIfInBounds_toArray, List.set_cons_zero, List.set_cons_succ, i64_w, i32_w]
    rfl
  refine pure_ (i := 7) (N := some 13) (v := ?_) (a' := ?_) #[true, true, true, true, true, true, false, true, false, false, false, false, false, false] rfl rfl (by kernel_rfl) (fun _ _ _ h => h) (Or.inl ⟨by rfl, ?_⟩) ?_ ?_
  rotate_left
  · intro w'
    go_simp
    with_reducible rfl
  rotate_left
  · simp only [Act.put, List.setIfInBounds_toArray, List.set_cons_zero, List.set_cons_succ, i64_w, i32_w]
    rfl
  refine one_ (i := 6) (N := some 12) #[true, true, true, true, true, true, true, true, false, false, false, false, false, false] rfl rfl (by kernel_rfl) (by decide) (fun K hK => ?_)
  refine goes_ Try.func49 (by kernel_rfl) rfl #[.slice A0 l0.length c0] (by rfl) rfl rfl (by (try simp only [List.map_toArray, List.map_cons, List.map_nil]); first | done | rfl) ?_
  refine (hc49 _ (below_drew (Below.refl _ _))).mono ?_
  rintro e w1 ⟨v1, rfl, hv1, hb1⟩
  obtain ⟨A1, c1, rfl⟩ := Kd.R_slice hv1
  refine ⟨_, rfl, ?_⟩
  have hb1' : Below W.heap.size W w1 := (below_drew (Below.refl _ _)).trans hb1
  have z0 := (hb1'.cell (World.block_lt_of_cell? _ _ y0)).trans y0
  have HB1 := Aside0.mk hb1'
  have HV1 := Aside0.mk hv1
  clear hv1 hb1 hb1' hc49
  refine hK.out _ _ (z0) (fun hHeld => ?_)
  clear hK K
  refine norm_ (a' := ?_) ?_ ?_
  rotate_left
  · show Act.put _ (some 12) _ = _
    simp only [Act.put, List.setIfInBounds_toArray, List.set_cons_zero, List.set_cons_succ, i64_w, i32_w]
    rfl
  refine pure_ (i := 8) (N := some 14) (v := ?_) (a' := ?_) #[true, true, true, true, true, true, true, true, true, false, false, false, false, false] rfl rfl (by kernel_rfl) (fun _ _ _ h => h) (Or.inl ⟨by rfl, ?_⟩) ?_ ?_
  rotate_left
  · intro w'
    go_simp
    with_reducible rfl
  rotate_left
  · simp only [Act.put, List.setIfInBounds_toArray, List.set_cons_zero, List.set_cons_succ, i64_w, i32_w]
    rfl
  refine one_ (i := 9) (N := some 15) #[true, true, true, true, true, true, true, true, true, true, false, false, false, false] rfl rfl (by kernel_rfl) (by decide) (fun K hK => ?_)
  refine value_ (w1 := ?_) (v := ?_) (by rfl) rfl ?_ ?_
  rotate_left 2
  · go_simp
    constructor
    · rfl
    · rfl
  refine hK.out _ _ ((blk_cell (blk_alloc (blk_below HB.out HB1.out) _) 0).trans rfl) (fun hHeld => ?_)
  clear hK K
  refine norm_ (a' := ?_) ?_ ?_
  rotate_left
  · show Act.put _ (some 15) _ = _
    simp only [Act.put, List.setIfInBounds_toArray, List.set_cons_zero, List.set_cons_succ, i64_w, i32_w]
    rfl
  refine one_ (i := 10) (N := some 16) #[true, true, true, true, true, true, true, true, true, true, true, false, false, false] rfl rfl (by kernel_rfl) (by decide) (fun K hK => ?_)
  refine step_append70 (by rfl) (.tmp 10) (.tmp 15) (by rfl) N b Av cv es l0 x A1 c1 W (by rfl) (by rfl) HB.out HV.out HN.out HE.out HV1.out HB1.out ?_
  intro v2 w2 hbb ho hk
  obtain ⟨A2, c2, rfl⟩ := Kd.R_slice ho
  rw [show (es ++ [(⟨l0, x⟩ : S70)]).length = es.length + 1 by simp] at ho
  have z2 : w2.cell? ⟨b, 0, none⟩ = some (.slice Av es.length cv) := (blk_cell hbb 0).trans rfl
  have z1 := blk_frozen hbb 0
  have HBB := Aside0.mk hbb
  have HO2 := Aside0.mk ho
  have HK2 := Aside0.mk hk
  clear hbb ho hk
  refine hK.out _ _ (z2) (fun hHeld => ?_)
  clear hK K
  refine norm_ (a' := ?_) ?_ ?_
  rotate_left
  · show Act.put _ (some 16) _ = _
    simp only [Act.put, List.setIfInBounds_toArray, List.set_cons_zero, List.set_cons_succ, i64_w, i32_w]
    rfl
  refine pure_ (i := 11) (N := some 17) (v := ?_) (a' := ?_) #[true, true, true, true, true, true, true, true, true, true, true, true, false, false] rfl rfl (by kernel_rfl) (fun _ _ _ h => h) (Or.inl ⟨by rfl, ?_⟩) ?_ ?_
  rotate_left
  · intro w'
    go_simp
    with_reducible rfl
  rotate_left
  · simp only [Act.put, List.setIfInBounds_toArray, List.set_cons_zero, List.set_cons_succ, i64_w, i32_w]
    rfl
  refine pure_ (i := 12) (N := some 18) (v := ?_) (a' := ?_) #[true, true, true, true, true, true, true, true, true, true, true, true, true, false] rfl rfl (by kernel_rfl) (fun _ _ _ h => h) (Or.inl ⟨by rfl, ?_⟩) ?_ ?_
  rotate_left
  · intro w'
    go_simp
    with_reducible rfl
  rotate_left
  · simp only [Act.put, List.setIfInBounds_toArray, List.set_cons_zero, List.set_cons_succ, i64_w, i32_w]
    rfl
  refine last_ (i := 13) (N := none) #[true, true, true, true, true, true, true, true, true, true, true, true, true, true] rfl rfl (by kernel_rfl) (by decide) (fun K hK => ?_)
  refine skip_ (w1 := ?_) (by rfl) rfl ?_ ?_
  rotate_left
  · go_simp
    rfl
  refine hK.out _ _ ?_
  clear hK K
  refine done_ (by kernel_rfl) ?_
  refine bodyPost_end (results_none rfl _ _ _) rfl ?_
  refine ⟨⟨_, rfl⟩, _, blk_put HBB.out 0 _ rfl, Kd.R_set HO2.out HBB.out (by decide) 0 _, ?_⟩
  exact (HK2.out.mono (fun i hi h => h.2)).trans (KeepS.set_ _ _ _ (fun h => h.1 rfl))
/-- What Matches hands over. -/
def matchesG (k : Nat) (q : List S33) : List S70 → Option (List Int)
  | [] => some []
  | x :: t => (feature_Subsumes.f k x.f0 q).bind fun b => (matchesG k q t).bind fun l => some (if b = true then x.f1 :: l else l)
theorem matchesG_mono (k : Nat) (q : List S33) : ∀ es, LeO (matchesG k q es) (matchesG (k + 1) q es)
  | [] => LeO.refl _
  | x :: t => LeO.bind (feature_Subsumes.mono _ _ _) (fun b => LeO.bind (matchesG_mono k q t) (fun l => LeO.refl _))
def relI (x : Int) (v : Value) (_ : Nat → Prop) (_ : World) : Prop := v = .int .i64 x
theorem relI_put (x : Int) (v : Value) (S : Nat → Prop) (A : World) (l : Nat) (r : Loop) (o : Obj) (h : relI x v S A) (_ : A.heap[l]? = some (.loop r)) : relI x v S (World.putObj A l o) := h
set_option maxHeartbeats 8000000 in
set_option maxRecDepth 100000 in
theorem Matches_any (b : Nat) (A0 : Option Addr) (n0 c0 : Nat) (W : World) :
    Calls Try.prog 32 #[.pointer (some ⟨b, 0, none⟩), .slice A0 n0 c0] W fun e w' => e = .returned (.func (.func 50) #[] #[.pointer (some ⟨W.heap.size, 0, none⟩), .pointer (some ⟨W.heap.size + 1, 0, none⟩)]) ∧
      w' = (W.alloc (.cells #[.pointer (some ⟨b, 0, none⟩)] 41)).alloc (.cells #[.slice A0 n0 c0] 22) := by
  have hmf : ∀ (fn : Fn) (first cap : Array Value) (w : World), (Instr.makeFunc fn first cap).run Try.prog w = .ok (.func fn first cap) w := fun _ _ _ _ => rfl
  go_enter Try.func32, Try.ntmps32
  go_wp2
  go_ret
  exact ⟨rfl, rfl⟩
set_option maxHeartbeats 16000000 in
set_option maxRecDepth 100000 in
theorem matches1_iter (k b b2 b3 : Nat) (Z : Nat → Prop) (Av : Option Addr) (cv : Nat) (es : List S70) (Aq : Option Addr) (cq : Nat) (q : List S33) (w : World) (h2 : w.heap[b2]? = some (.cells #[.pointer (some ⟨b, 0, none⟩)] 41 (0, 0))) (h3 : w.heap[b3]? = some (.cells #[.slice Aq q.length cq] 22 (0, 0)))
    (hb : w.heap[b]? = some (.cells #[.slice Av es.length cv] 67 (0, 0))) (hE : Kd.F k70 w Z Av es.length es) (hQ : Kd.F k33 w Z Aq q.length q) (hcq : q.length ≤ cq) (hZ2 : Z b2) (hZ3 : Z b3) (hZb : Z b) (hZ : ∀ i, w.heap.size ≤ i → ¬ Z i) (he : es.length ≤ 1000) (xs : List Int) (h : matchesG k q es = some xs) :
    IterC Try.prog 50 #[.pointer (some ⟨b2, 0, none⟩), .pointer (some ⟨b3, 0, none⟩)] (fun x vs S A => ∃ v, vs = #[v] ∧ relI x v S A) Z w xs := by
  intro l J Jx Y W hW hY hJ hJx hR h0
  have hu67 := Try.underlying67
  have hu70 := Try.underlying70
  have h2 := blk_below h2 hW
  have h3 := blk_below h3 hW
  have hb := blk_below hb hW
  have hE := Kd.F_below (Kd.F_bound hE) hW
  have hQ := Kd.F_below (Kd.F_bound hQ) hW
  have x2 : W.cell? ⟨b2, 0, none⟩ = some (.pointer (some ⟨b, 0, none⟩)) := (blk_cell h2 0).trans rfl
  have xb : W.cell? ⟨b, 0, none⟩ = some (.slice Av es.length cv) := (blk_cell hb 0).trans rfl
  show Calls Try.prog 50 #[.func (.yield l) #[] #[], .pointer (some ⟨b2, 0, none⟩), .pointer (some ⟨b3, 0, none⟩)] W _
  have H2 := Aside0.mk h2
  have H3 := Aside0.mk h3
  have HB := Aside0.mk hb
  have HE := Aside0.mk hE
  have HQ := Aside0.mk hQ
  have HC := Aside0.mk hcq
  have HJ := Aside0.mk hJ
  have HR := Aside0.mk hR
  have HY := Aside0.mk hY
  have H0 := Aside0.mk h0
  have HM := Aside0.mk h
  have HZ := Aside0.mk (fun i (hi : W.heap.size ≤ i) => hZ i (Nat.le_trans hW.size hi))
  have Z2 := Aside0.mk hZ2
  have Z3 := Aside0.mk hZ3
  have ZB := Aside0.mk hZb
  clear h2 h3 hb hE hQ hcq hJ hJx hR hY h0 h hZ hZ2 hZ3 hZb hW
  go_enter Try.func50, Try.ntmps50
  go_wp2
  go_loopw [11] (fun v11 wr => ∃ (j : Nat) (pre rest : List Int) (Y1 : Nat → Prop), v11 = .int .i64 (j : Int) ∧ Aside0 (j ≤ es.length) ∧ Aside0 (matchesG k q (es.drop j) = some rest ∧ pre ++ rest = xs) ∧ Aside0 (J Y1 pre wr) ∧ Aside0 (∀ i, Y1 i → i < wr.heap.size ∧ ¬ Z i) ∧ Aside0 (KeepS Z W wr)) (fun v11 _ => es.length - (intOf v11).toNat)
  case atStart => exact ⟨0, [], xs, Y, rfl, ⟨Nat.zero_le _⟩, ⟨HM.out, rfl⟩, H0, HY, ⟨KeepS.refl _ _⟩⟩
  case round =>
    clear x2 xb HM H0 HY
    obtain ⟨j, pre, rest, Y1, rfl, HJL, HP, HJ1, HY1, HK⟩ := hrel
    by_cases hj : j < es.length
    case neg =>
      go_wp2
      go_end0
      have hjl := HJL.out
      obtain ⟨hm, hp⟩ := HP.out
      rw [List.drop_of_length_le (by omega), matchesG] at hm
      obtain rfl := Option.some.inj hm
      rw [List.append_nil] at hp
      subst hp
      exact ⟨⟨_, rfl⟩, HK.out.size, Y1, .inl HJ1.out⟩
    case pos =>
      obtain ⟨hm, hp⟩ := HP.out
      have hEr := Kd.F_step HE.out (fun i (hi : Z i ∧ i < w.heap.size) hlt => HK.out.block i hlt hi.1)
      have hQr := Kd.F_step HQ.out (fun i (hi : Z i ∧ i < w.heap.size) hlt => HK.out.block i hlt hi.1)
      obtain ⟨ad, A1, c1, rfl, y0, y1, l1, g1⟩ := at_T70 (Kd.F_now hEr) (j : Int) (by omega) (by omega)
      simp only [Int.toNat_natCast] at y0 y1
      obtain ⟨x, hx⟩ : ∃ x, rd_T70 es (j : Int) = x := ⟨_, rfl⟩
      rw [hx] at y0 y1 l1 g1
      have hxe : es[j] = x := by rw [← hx]; unfold rd_T70; rw [Int.toNat_natCast, List.getD_eq_getElem?_getD, List.getElem?_eq_getElem hj]; rfl
      rw [List.drop_eq_getElem_cons hj, hxe, matchesG] at hm
      obtain ⟨bs, hbs, hm⟩ := Option.bind_eq_some_iff.1 hm
      obtain ⟨ls, hls, hm⟩ := Option.bind_eq_some_iff.1 hm
      have hm := Option.some.inj hm
      have hc17 := fun (W1 : World) (hb : Below wr.heap.size wr W1) => feature_Subsumes.calls k A1 c1 x.f0 Aq cq q bs W1 (Kd.C_below g1 hb) l1 (Kd.C_below (Kd.F_now hQr) hb) HC.out hbs
      have HLS := Aside0.mk hls
      have HMM := Aside0.mk hm
      have HPP := Aside0.mk hp
      have hj0 : (0 : Int) ≤ (j : Int) := Int.natCast_nonneg _
      have hj1 : (j : Int) < (es.length : Int) := by omega
      have x3 : (wr.alloc (.cells #[.slice A1 x.f0.length c1, .int .i64 x.f1] 70)).cell? ⟨b3, 0, none⟩ = some (.slice Aq q.length cq) := (blk_cell (blk_alloc (HK.out.blk H3.out Z3.out) _) 0).trans rfl
      clear hEr hQr hls hm hp hx hxe HP hbs g1 l1
      cases bs with
      | false =>
        rw [if_neg (by decide)] at HMM
        go_wp2_with (go_at_call 17; refine (hc17 _ (below_alloc (Below.refl _ _) _)).mono ?_; rintro e w2 ⟨rfl, hb2⟩; have HB2 := Aside0.mk hb2; clear hb2 hc17)
        have HBW := (below_alloc (Below.refl wr.heap.size wr) (.cells #[.slice A1 x.f0.length c1, .int .i64 x.f1] 70)).trans (HB2.out.mono (by simp))
        go_roundw
        case rel => exact ⟨j + 1, pre, rest, Y1, by go_num, ⟨hj⟩, ⟨by rw [HLS.out]; exact congrArg some HMM.out, HPP.out⟩, ⟨HJ.out _ _ _ _ HJ1.out (KeepS.of_below HBW (fun i hi _ => hi))⟩, ⟨fun i hi => ⟨Nat.lt_of_lt_of_le (HY1.out i hi).1 HBW.size, (HY1.out i hi).2⟩⟩, ⟨HK.out.trans (KeepS.of_below HBW (fun i hi _ => hi))⟩⟩
        case measure => simp [intOf]; omega
      | true =>
        rw [if_pos rfl] at HMM
        go_upto_region 3 with (fail)
        have hbx := heap_alloc_new wr (.cells #[.slice A1 x.f0.length c1, .int .i64 x.f1] 70)
        have HBX := Aside0.mk hbx
        have hpre : pre ++ [x.f1] <+: xs := ⟨ls, by rw [← HPP.out, ← HMM.out, List.append_assoc, List.singleton_append]⟩
        have HPRE := Aside0.mk hpre
        clear hbx hpre y0 y1
        have z0 : (wr.alloc (.cells #[.slice A1 x.f0.length c1, .int .i64 x.f1] 70)).cell? ⟨wr.heap.size, 0, none⟩ = some (.slice A1 x.f0.length c1) := (blk_cell HBX.out 0).trans rfl
        refine (wpIn_wide (n := 1)).1 ?_
        refine wpIn_region_lit ?_
        gi_wp2_with (refine ⟨trivial, ?_⟩; gi_at_call 17; refine ((callsIn_wide (n := 0)).2 (hc17 _ (below_alloc (Below.refl _ _) _))).mono ?_; rintro e w2 ⟨rfl, hb2⟩; have HB2 := Aside0.mk ((below_alloc (Below.refl wr.heap.size wr) (.cells #[.slice A1 x.f0.length c1, .int .i64 x.f1] 70)).trans (hb2.mono (by simp))); have z1 : w2.cell? ⟨wr.heap.size, 1, none⟩ = some (.int .i64 x.f1) := (blk_cell (blk_below HBX.out hb2) 1).trans rfl; have HR2 := Aside0.mk (HR.out Y1 pre x.f1 #[.int .i64 x.f1] (fun _ => False) w2 HPRE.out (fun i hi => ⟨Nat.lt_of_lt_of_le (HY1.out i hi).1 HB2.out.size, (HY1.out i hi).2⟩) (Nat.le_trans HK.out.size HB2.out.size) (HJ.out _ _ _ _ HJ1.out (KeepS.of_below HB2.out (fun i hi _ => hi))) ⟨_, rfl, rfl⟩ (fun _ hk => hk.elim)); clear hb2 hc17 z0 x3; obtain ⟨fn, tmps, assign, body, hy, hRI⟩ := HR2.out; have HRI := Aside0.mk hRI; clear hRI HR2)
        refine HRI.out.mono ?_
        rintro e w4 ⟨Y2, hy1, hy2, hk4, (⟨rfl, hJ4⟩ | ⟨rfl, hJx4⟩)⟩
        · have HY4 : Aside0 (∀ i, Y2 i → i < w4.heap.size ∧ ¬ Z i) := ⟨fun i hi => ⟨hy2 i hi, by
            rcases hy1 i hi with h | h | h
            · exact (HY1.out i h).2
            · exact h.elim
            · exact HZ.out i (Nat.le_trans HK.out.size (Nat.le_trans HB2.out.size h))⟩⟩
          have HK4 : Aside0 (KeepS Z W w4) := ⟨(HK.out.trans (KeepS.of_below HB2.out (fun i hi _ => hi))).trans (hk4.mono (fun i _ hi => ⟨fun h => (HY1.out i h).2 hi, fun h => h⟩))⟩
          have HJ4 := Aside0.mk hJ4
          clear hy1 hy2 hk4 hJ4
          gi_wp2
          go_wp2
          go_roundw
          case rel => exact ⟨j + 1, _, ls, Y2, by go_num, ⟨hj⟩, ⟨HLS.out, by rw [← HPP.out, ← HMM.out, List.append_assoc, List.singleton_append]⟩, HJ4, HY4, HK4⟩
          case measure => simp [intOf]; omega
        · have HJX4 := Aside0.mk hJx4
          have HS4 := Aside0.mk (Nat.le_trans HK.out.size (Nat.le_trans HB2.out.size hk4.size))
          clear hy1 hy2 hk4 hJx4
          gi_wp2
          go_wp2
          refine bodyPost_ret (results_none rfl _ _ _) rfl ?_
          exact ⟨⟨_, rfl⟩, HS4.out, Y2, .inr ⟨_, HPRE.out, HJX4.out⟩⟩
theorem below_putObj {B : Nat} {w W : World} (h : Below B w W) {D : Nat} (hD : B ≤ D) (o : Obj) : Below B w (W.putObj D o) := ⟨h.os, h.tape, h.output, by rw [World.putObj_size]; exact h.size, fun k hk => (World.putObj_heap_other (by omega)).trans (h.block k hk)⟩
set_option maxHeartbeats 16000000 in
set_option maxRecDepth 100000 in
theorem Find_any (k b : Nat) (Av : Option Addr) (cv : Nat) (es : List S70) (Aq : Option Addr) (cq : Nat) (q : List S33) (W : World) (hb : W.heap[b]? = some (.cells #[.slice Av es.length cv] 67 (0, 0))) (hE : Kd.F k70 W (fun _ => True) Av es.length es) (hQ : Kd.F k33 W (fun _ => True) Aq q.length q) (hcq : q.length ≤ cq) (he : es.length ≤ 1000) (xs : List Int) (h : matchesG k q es = some xs) :
    Calls Try.prog 30 #[.pointer (some ⟨b, 0, none⟩), .slice Aq q.length cq] W fun e w' => e = .returned (.tuple #[.int .i64 (xs.headD 0), .bool (!xs.isEmpty)]) ∧ Below W.heap.size W w' := by
  obtain ⟨W2, hW2⟩ : ∃ W2, (W.alloc (.cells #[.int .i64 0] 3)).alloc (.cells #[.bool false] 4) = W2 := ⟨_, rfl⟩
  have hz2 : W2.heap.size = W.heap.size + 2 := by rw [← hW2]; simp
  have hr0 : W2.heap[W.heap.size]? = some (.cells #[.int .i64 0] 3 (0, 0)) := by rw [← hW2]; exact blk_alloc (heap_alloc_new _ _) _
  have hr1 : W2.heap[W.heap.size + 1]? = some (.cells #[.bool false] 4 (0, 0)) := by
    rw [← hW2]
    have h := heap_alloc_new (W.alloc (.cells #[.int .i64 0] 3)) (.cells #[.bool false] 4)
    rwa [World.size_alloc] at h
  have hB2 : Below W.heap.size W W2 := by rw [← hW2]; exact below_alloc (below_alloc (Below.refl _ _) _) _
  obtain ⟨W4, hW4⟩ : ∃ W4, (W2.alloc (.cells #[.pointer (some ⟨b, 0, none⟩)] 41)).alloc (.cells #[.slice Aq q.length cq] 22) = W4 := ⟨_, rfl⟩
  have hz4 : W4.heap.size = W.heap.size + 4 := by rw [← hW4]; simp [hz2]
  have hB4 : Below W2.heap.size W2 W4 := by rw [← hW4]; exact below_alloc (below_alloc (Below.refl _ _) _) _
  have h2 : W4.heap[W.heap.size + 2]? = some (.cells #[.pointer (some ⟨b, 0, none⟩)] 41 (0, 0)) := by rw [← hW4, ← hz2]; exact blk_alloc (heap_alloc_new _ _) _
  have h3 : W4.heap[W.heap.size + 3]? = some (.cells #[.slice Aq q.length cq] 22 (0, 0)) := by
    rw [← hW4]
    have h := heap_alloc_new (W2.alloc (.cells #[.pointer (some ⟨b, 0, none⟩)] 41)) (.cells #[.slice Aq q.length cq] 22)
    rwa [World.size_alloc, hz2] at h
  have hbl := blk_lt hb
  have hB04 : Below W.heap.size W W4 := hB2.trans (hB4.mono (by omega))
  have hit := matches1_iter k b (W.heap.size + 2) (W.heap.size + 3) (fun i => i < W.heap.size ∨ i = W.heap.size + 2 ∨ i = W.heap.size + 3) Av cv es Aq cq q W4 h2 h3 (blk_below hb hB04) (Kd.F_below (Kd.F_mono (Kd.F_bound hE) (fun i hi => .inl hi.2)) hB04) (Kd.F_below (Kd.F_mono (Kd.F_bound hQ) (fun i hi => .inl hi.2)) hB04) hcq (.inr (.inl rfl)) (.inr (.inr rfl)) (.inl hbl) (fun i hi h => by omega) he xs h
  have HIT := Aside0.mk hit
  have HR0 := Aside0.mk hr0
  have HR1 := Aside0.mk hr1
  have HB2 := Aside0.mk hB2
  have HB4 := Aside0.mk hB4
  have HZ2 := Aside0.mk hz2
  have HZ4 := Aside0.mk hz4
  have HB04 := Aside0.mk hB04
  have HW4 := Aside0.mk hW4
  have hcM := fun (V : World) => Matches_any b Aq q.length cq V
  clear hb hE hQ hcq he h hit hr0 hr1 hB2 hB4 h2 h3 hbl hB04 hz2 hz4 hW4
  refine calls_of_wp_marks Try.func30 rfl ?_
  simp only [Try.ntmps30, List.size_toArray, List.length_cons, List.length_nil, Nat.reduceAdd, Nat.reduceSub, Array.replicate_succ, Array.replicate_zero, List.push_toArray, List.append_toArray, List.nil_append, List.cons_append]
  go_upto_region 1 with (fail)
  clear hW2
  go_wp2_with (go_at_call 32; refine (hcM _).mono ?_; rintro e W4 ⟨rfl, hw2⟩; rw [HW4.out] at hw2; subst hw2; rw [HZ2.out]; clear hcM)
  have hz2 := HZ2.out
  have hz4 := HZ4.out
  refine wp_rangeFunc_iter1 (gf := 50) (lb := #[.pointer (some ⟨W.heap.size + 2, 0, none⟩), .pointer (some ⟨W.heap.size + 3, 0, none⟩)]) (Rel := relI) (Z := fun i => i < W.heap.size ∨ i = W.heap.size + 2 ∨ i = W.heap.size + 3) (w0 := W4) (xs := xs) rfl (enters_of Try.func50 (by kernel_rfl) rfl) HIT.out (Below.refl _ _) relI_put
    (fun Y pre A => pre = [] ∧ Y W.heap.size ∧ Y (W.heap.size + 1) ∧ KeepS (fun i => i < W4.heap.size) W4 A)
    (fun c Y pre A => c = .ret ∧ ∃ x, pre = [x] ∧ Y W.heap.size ∧ Y (W.heap.size + 1) ∧ A.heap[W.heap.size]? = some (.cells #[.int .i64 x] 3 (0, 0)) ∧ A.heap[W.heap.size + 1]? = some (.cells #[.bool true] 4 (0, 0)) ∧ KeepS (fun i => i < W.heap.size) W4 A)
    ?hI ?hIx (fun i => i = W.heap.size ∨ i = W.heap.size + 1) ?Y0 ?hZ ⟨rfl, .inl rfl, .inr rfl, KeepS.refl _ _⟩ ?asg ?assign ?body ?done ?stop
  case assign =>
    intro l v A K hK
    refine wpIn_region_of (r := some l) (by intro a w h; exact h) (by simp) ?_
    go_wp2
    exact hK
  case hI => exact fun Y pre A B ⟨h1, h2, h3, h4⟩ hk => ⟨h1, h2, h3, h4.trans (hk.mono (fun i _ hi => .inl hi))⟩
  case hIx => exact fun c Y pre A B ⟨h0, x, h1, h2, h3, h4, h5, h6⟩ hk => ⟨h0, x, h1, h2, h3, hk.blk h4 (.inr h2), hk.blk h5 (.inr h3), h6.trans (hk.mono (fun i _ hi => .inl (by omega)))⟩
  case Y0 => exact fun i hi => ⟨by omega, fun h => by omega⟩
  case hZ => exact fun i hi h => by omega
  case body =>
    rintro l m Y pre x v S A hpre ⟨rfl, hy, hy1, hk⟩ hrel hl hlm hm hY hS
    obtain rfl : v = .int .i64 x := hrel
    have hb0 := hk.blk (blk_below HR0.out HB4.out) (by omega)
    have hb1 := hk.blk (blk_below HR1.out HB4.out) (by omega)
    have x0 : A.cell? ⟨W.heap.size, 0, none⟩ = some (.int .i64 0) := (blk_cell hb0 0).trans rfl
    have x1 : A.cell? ⟨W.heap.size + 1, 0, none⟩ = some (.bool false) := (blk_cell hb1 0).trans rfl
    have f0 := blk_frozen hb0 0
    have f1 := blk_frozen hb1 0
    have HB0 := Aside0.mk hb0
    have HB1 := Aside0.mk hb1
    have HK := Aside0.mk hk
    clear hb0 hb1 hk hpre
    refine wpIn_block ?_
    refine wpIn_seq ?_
    refine wpIn_region_of (r := some l) (by rintro a w ⟨Y', h1, h2, h3, h⟩; exact h) (by simp) ?_
    go_wp2
    refine wpIn_ret ?_
    refine ⟨Y, fun i hi => .inl hi, fun i hi => by have := (hY i hi).1; simp [World.setCell]; omega, ((KeepS.refl _ _).trans (KeepS.set_ _ _ _ (fun h => h.2.1 hy))).trans (KeepS.set_ _ _ _ (fun h => h.2.1 hy1)), rfl, x, rfl, hy, hy1, ?_, ?_, ?_⟩
    · exact blk_far (blk_put HB0.out 0 _ rfl) (p := ⟨W.heap.size + 1, 0, none⟩) (by show W.heap.size ≠ W.heap.size + 1; omega) _
    · exact blk_put (blk_far HB1.out (p := ⟨W.heap.size, 0, none⟩) (by show W.heap.size + 1 ≠ W.heap.size; omega) _) 0 _ rfl
    · exact ((HK.out.mono (fun i _ hi => by omega)).trans (KeepS.set_ _ _ _ (by show ¬ W.heap.size < W.heap.size; omega))).trans (KeepS.set_ _ _ _ (by show ¬ W.heap.size + 1 < W.heap.size; omega))
  case done =>
    rintro D Y V hD ⟨rfl, hy, hy1, hk⟩ hK
    have hb0 := hk.blk (blk_below HR0.out HB4.out) (by omega)
    have hb1 := hk.blk (blk_below HR1.out HB4.out) (by omega)
    have x0 : V.cell? ⟨W.heap.size, 0, none⟩ = some (.int .i64 0) := (blk_cell hb0 0).trans rfl
    have x1 : V.cell? ⟨W.heap.size + 1, 0, none⟩ = some (.bool false) := (blk_cell hb1 0).trans rfl
    have f0 := blk_frozen hb0 0
    have f1 := blk_frozen hb1 0
    have HB0 := Aside0.mk hb0
    have HB1 := Aside0.mk hb1
    have HK := Aside0.mk hk
    have HKD := Aside0.mk hK
    clear hb0 hb1 hk hK
    go_wp2
    have c0 := (Below.heap_setCell (V.setCell ⟨W.heap.size, 0, none⟩ (.int .i64 0)) ⟨W.heap.size + 1, 0, none⟩ (.bool false) W.heap.size (by show W.heap.size ≠ W.heap.size + 1; omega)).trans (blk_put HB0.out 0 (.int .i64 0) rfl)
    have c1 := blk_put (blk_far HB1.out (p := ⟨W.heap.size, 0, none⟩) (by show W.heap.size + 1 ≠ W.heap.size; omega) (.int .i64 0)) 0 (.bool false) rfl
    have kd := (Below.heap_setCell (V.setCell ⟨W.heap.size, 0, none⟩ (.int .i64 0)) ⟨W.heap.size + 1, 0, none⟩ (.bool false) D (by show D ≠ W.heap.size + 1; omega)).trans ((Below.heap_setCell V ⟨W.heap.size, 0, none⟩ (.int .i64 0) D (by show D ≠ W.heap.size; omega)).trans HKD.out)
    have hbv : Below W.heap.size W ((V.setCell ⟨W.heap.size, 0, none⟩ (.int .i64 0)).setCell ⟨W.heap.size + 1, 0, none⟩ (.bool false)) := below_set (below_set (HB04.out.trans (HK.out.below (by omega) (fun i hi => by omega))) (Nat.le_refl _)) (by show W.heap.size ≤ W.heap.size + 1; omega)
    generalize (V.setCell ⟨W.heap.size, 0, none⟩ (.int .i64 0)).setCell ⟨W.heap.size + 1, 0, none⟩ (.bool false) = V2 at c0 c1 kd hbv ⊢
    have q0 : (V2.putObj D (.deferred none)).cell? ⟨W.heap.size, 0, none⟩ = some (.int .i64 0) := (blk_cell ((World.putObj_heap_other (by omega)).trans c0) 0).trans rfl
    have q1 : (V2.putObj D (.deferred none)).cell? ⟨W.heap.size + 1, 0, none⟩ = some (.bool false) := (blk_cell ((World.putObj_heap_other (by omega)).trans c1) 0).trans rfl
    exact leavesM_mark kd (leavesM_nil (v := .tuple #[.int .i64 0, .bool false]) (by simp [results, Try.results30, go_sem, q0, q1]) ⟨rfl, below_putObj hbv (by omega) _⟩)
  case stop =>
    rintro D c Y pre V hD hpre ⟨rfl, x, rfl, hy, hy1, hb0, hb1, hk⟩ hK
    obtain ⟨t, rfl⟩ := hpre
    have q0 : (V.putObj D (.deferred none)).cell? ⟨W.heap.size, 0, none⟩ = some (.int .i64 x) := (blk_cell ((World.putObj_heap_other (by omega)).trans hb0) 0).trans rfl
    have q1 : (V.putObj D (.deferred none)).cell? ⟨W.heap.size + 1, 0, none⟩ = some (.bool true) := (blk_cell ((World.putObj_heap_other (by omega)).trans hb1) 0).trans rfl
    refine wp_ret ?_
    exact leavesM_mark hK (leavesM_nil (v := .tuple #[.int .i64 x, .bool true]) (by simp [results, Try.results30, go_sem, q0, q1]) ⟨rfl, below_putObj (HB04.out.trans (hk.below (by omega) (fun i hi => hi))) (by omega) _⟩)
set_option maxHeartbeats 8000000 in
set_option maxRecDepth 100000 in
theorem New_any (W : World) : Calls Try.prog 27 #[] W fun e w' => e = .returned (.pointer (some ⟨W.heap.size, 0, none⟩)) ∧ w' = W.alloc (.cells #[.slice none 0 0] 67) := by
  have hu67 := Try.underlying67
  go_enter Try.func27, Try.ntmps27
  go_wp2
  go_ret
  exact ⟨rfl, rfl⟩
/-- The entries, one after the other: none: not covered; some none: one is no record. -/
def tabsG (k : Nat) (q : List S33) : List (List S33) → Nat → List S70 → List Int → Option (Option (List S70 × List Int))
  | [], _, es, want => some (some (es, want))
  | e :: t, i, es, want => if e.length < 4398046511104 then (pentaglotref02_Record.f k e).bind fun r => if r = true then (pentaglotref02_Subsumes.f k e q).bind fun s => tabsG k q t (i + 1) (es ++ [⟨e, (i : Int) + 1⟩]) (if s = true then want ++ [(i : Int) + 1] else want) else some none else none
theorem tabsG_mono (k : Nat) (q : List S33) : ∀ l i es want, LeO (tabsG k q l i es want) (tabsG (k + 1) q l i es want)
  | [], _, _, _ => LeO.refl _
  | e :: t, i, es, want => LeO.ite (LeO.bind (pentaglotref02_Record.mono _ _) (fun r => LeO.ite (LeO.bind (pentaglotref02_Subsumes.mono _ _ _) (fun s => tabsG_mono k q t _ _ _)) (LeO.refl _))) (LeO.refl _)
def pentaglotlaw02_FeatureTables.f (k : Nat) (l0 : List (List S33)) (l1 : List S33) : Option Bool :=
  if pentaglotlaw02_awake.f k = some true then (if 60 < l0.length then some true else (pentaglotref02_Record.f k l1).bind fun r => if r = true then (tabsG k l1 l0 0 [] []).bind fun o => match o with
    | none => some true
    | some (es, want) => if matchesG k l1 es = some want then some true else none
  else some true) else none
theorem info3_ : (Try.prog.info? 3).map (fun i => (i.zero, i.size, i.bytes)) = some (some (.int .i64 0), 1, 8) := by kernel_rfl
theorem ints_keep {W V : World} {N : Nat} {u : Value} {want : List Int} (h : Kd.R (Kd.int .i64) 3 W N (fun _ => True) u want) {S : Nat → Prop} (hk : KeepS S W V) (hS : ∀ i, u.ownBlock = some i → S i) : Kd.R (Kd.int .i64) 3 V N (fun _ => True) u want :=
  Kd.R_mono (Kd.R_step (Kd.R_tight rfl h) (fun i hi hlt => hk.block i hlt (hS i hi.symm))) (fun _ _ => trivial)
set_option maxHeartbeats 8000000 in
set_option maxRecDepth 100000 in
theorem Len_any (b : Nat) (A : Option Addr) (n c : Nat) (W : World) (hb : W.heap[b]? = some (.cells #[.slice A n c] 67 (0, 0))) : Calls Try.prog 31 #[.pointer (some ⟨b, 0, none⟩)] W fun e w' => e = .returned (.int .i64 (n : Int)) ∧ w' = W := by
  have hu67 := Try.underlying67
  have x : W.cell? ⟨b, 0, none⟩ = some (.slice A n c) := (blk_cell hb 0).trans rfl
  clear hb
  go_enter Try.func31, Try.ntmps31
  go_wp2
  go_ret
  exact ⟨rfl, rfl⟩
theorem tables_leave (w V : World) (tmps : Array Value) (h4 : tmps.getD 4 undef = .pointer (some ⟨w.heap.size, 0, none⟩)) (r : Bool) (hb : V.heap[w.heap.size]? = some (.cells #[.bool r] 4 (0, 0))) (hB : Below w.heap.size w V) :
    bodyPostM Fence.wide 0 Try.prog Try.f9 (fun e w' => e = .returned (.bool r) ∧ Below w.heap.size w w') Exit.ret { tmps, defers := [] } V := by
  have c4 : V.cell? ⟨w.heap.size, 0, none⟩ = some (.bool r) := (blk_cell hb 0).trans rfl
  have h4' : tmps[4]?.getD undef = .pointer (some ⟨w.heap.size, 0, none⟩) := by simpa using h4
  exact leavesM_nil (v := .bool r) (by simp [results, Try.results9, h4', c4, go_sem]) ⟨rfl, hB⟩
set_option maxHeartbeats 16000000 in
set_option maxRecDepth 100000 in
theorem pentaglotlaw02_FeatureTables.calls (k : Nat) (A0 : Option Addr) (c0 : Nat) (l0 : List (List S33)) (A1 : Option Addr) (c1 : Nat) (l1 : List S33) (r : Bool) (w : World) (hr0 : Kd.C (Kd.slice 33 k33) w A0 l0.length l0) (hc0 : l0.length ≤ c0) (hr1 : Kd.C k33 w A1 l1.length l1) (hc1 : l1.length ≤ c1) (h : pentaglotlaw02_FeatureTables.f k l0 l1 = some r) :
    Calls Try.prog 9 #[.slice A0 l0.length c0, .slice A1 l1.length c1] w fun e w' => e = .returned (.bool r) ∧ Below w.heap.size w w' := by
  unfold pentaglotlaw02_FeatureTables.f at h
  by_cases haw : pentaglotlaw02_awake.f k = some true
  case neg => rw [if_neg haw] at h; cases h
  rw [if_pos haw] at h
  have a12 := fun (W : World) => pentaglotlaw02_awake.calls k true W haw
  have hb4 := heap_alloc_new w (.cells #[.bool false] 4)
  have hB4 := below_alloc (Below.refl w.heap.size w) (.cells #[.bool false] 4)
  have HF0 := Aside0.mk (Kd.C_F (Kd.heap_slice 33 (Kd.heap_iso _ (Kd.heap_pair Kd.heap_string Kd.heap_string))) hr0)
  have HF1 := Aside0.mk (Kd.C_F (Kd.heap_iso _ (Kd.heap_pair Kd.heap_string Kd.heap_string)) hr1)
  have HC0 := Aside0.mk hc0
  have HC1 := Aside0.mk hc1
  have HB4 := Aside0.mk hb4
  have HBW4 := Aside0.mk hB4
  clear haw hr0 hr1 hc0 hc1 hb4 hB4
  refine calls_of_wp_marks Try.func9 rfl ?_
  simp only [Try.ntmps9, List.size_toArray, List.length_cons, List.length_nil, Nat.reduceAdd, Nat.reduceSub, Array.replicate_succ, Array.replicate_zero, List.push_toArray, List.append_toArray, List.nil_append, List.cons_append]
  by_cases h60 : 60 < l0.length
  · rw [if_pos h60] at h
    obtain rfl := Option.some.inj h
    have h60i : (60 : Int) < (l0.length : Int) := by omega
    clear h
    go_wp2_with (go_at_call 12; refine (a12 _).mono ?_; rintro e w1 ⟨rfl, hb1⟩; have HB1 := Aside0.mk hb1; have x4 : w1.cell? ⟨w.heap.size, 0, none⟩ = some (.bool false) := (blk_cell (blk_below HB4.out hb1) 0).trans rfl; have f4 := blk_frozen (blk_below HB4.out hb1) 0; clear hb1 a12)
    exact tables_leave w _ _ rfl true (blk_put (blk_below HB4.out HB1.out) 0 _ rfl) (below_set (HBW4.out.trans (HB1.out.mono (by simp))) (Nat.le_refl _))
  · rw [if_neg h60] at h
    have h60i : ¬ (60 : Int) < (l0.length : Int) := by omega
    obtain ⟨rr, hrr, h⟩ := Option.bind_eq_some_iff.1 h
    have a13 := fun (W : World) (hb : Below w.heap.size w W) => pentaglotref02_Record.calls k A1 c1 l1 rr W (Kd.F_now (Kd.F_below HF1.out hb)) HC1.out hrr
    cases rr with
    | false =>
      rw [if_neg (by decide)] at h
      obtain rfl := Option.some.inj h
      clear h hrr
      go_wp2_with (first | (go_at_call 12; refine (a12 _).mono ?_; rintro e w1 ⟨rfl, hb1⟩; have HB1 := Aside0.mk hb1; clear hb1 a12) | (go_at_call 13; refine (a13 _ (HBW4.out.trans (HB1.out.mono (by simp)))).mono ?_; rintro e w2 ⟨rfl, hd2⟩; have hb2 := hd2.below; have HB2 := Aside0.mk (HB1.out.trans (hb2.mono HB1.out.size)); have x4 : w2.cell? ⟨w.heap.size, 0, none⟩ = some (.bool false) := (blk_cell (blk_below HB4.out HB2.out) 0).trans rfl; have f4 := blk_frozen (blk_below HB4.out HB2.out) 0; clear hb2 hd2 a13))
      exact tables_leave w _ _ rfl true (blk_put (blk_below HB4.out HB2.out) 0 _ rfl) (below_set (HBW4.out.trans (HB2.out.mono (by simp))) (Nat.le_refl _))
    | true =>
      rw [if_pos rfl] at h
      obtain ⟨o, ho, h⟩ := Option.bind_eq_some_iff.1 h
      have HO := Aside0.mk ho
      have H := Aside0.mk h
      clear h ho hrr
      have anew := New_any
      go_wp2_with (first | (go_at_call 12; refine (a12 _).mono ?_; rintro e w1 ⟨rfl, hb1⟩; have HB1 := Aside0.mk hb1; clear hb1 a12) | (go_at_call 13; refine (a13 _ (HBW4.out.trans (HB1.out.mono (by simp)))).mono ?_; rintro e w2 ⟨rfl, hd2⟩; have hb2 := hd2.below; have HB2 := Aside0.mk (HB1.out.trans (hb2.mono HB1.out.size)); clear hb2 hd2 a13) | (go_at_call 27; refine (anew _).mono ?_; rintro e w3 ⟨rfl, rfl⟩; clear anew))
      have hs2 : w.heap.size < w2.heap.size := blk_lt (blk_below HB4.out HB2.out)
      have HS2 := Aside0.mk hs2
      obtain ⟨w4, hw4⟩ : ∃ w4, (w2.alloc (.cells #[.slice none 0 0] 67)).alloc (.cells #[.slice none 0 0] 43) = w4 := ⟨_, rfl⟩
      have hz4 : w4.heap.size = w2.heap.size + 2 := by rw [← hw4]; simp
      have hbt : w4.heap[w2.heap.size]? = some (.cells #[.slice none 0 0] 67 (0, 0)) := by rw [← hw4]; exact blk_alloc (heap_alloc_new _ _) _
      have hbw : w4.heap[w2.heap.size + 1]? = some (.cells #[.slice none 0 0] 43 (0, 0)) := by
        rw [← hw4]
        have h := heap_alloc_new (w2.alloc (.cells #[.slice none 0 0] 67)) (.cells #[.slice none 0 0] 43)
        rwa [World.size_alloc] at h
      have hb24 : Below w2.heap.size w2 w4 := by rw [← hw4]; exact below_alloc (below_alloc (Below.refl _ _) _) _
      have HBT := Aside0.mk hbt
      have HBO := Aside0.mk hbw
      have HR4 := Aside0.mk (blk_below (blk_below HB4.out HB2.out) hb24)
      have HW4 := Aside0.mk (HBW4.out.trans ((HB2.out.trans (hb24.mono HB2.out.size)).mono (by simp)))
      have HZ4 := Aside0.mk hz4
      rw [hw4]
      clear hbt hbw hb24 hz4 hw4 hs2
      go_loopw [7] (fun v7 wr => ∃ (j : Nat) (es : List S70) (want : List Int) (v u : Value), v7 = .int .i64 (j : Int) ∧ Aside0 (j ≤ l0.length ∧ es.length = j ∧ want.length ≤ j) ∧ Aside0 (tabsG k l1 (l0.drop j) j es want = some o) ∧ Aside0 (wr.heap[w2.heap.size]? = some (.cells #[v] 67 (0, 0))) ∧ Aside0 (Kd.R k70 70 wr w.heap.size (fun _ => True) v es) ∧
        Aside0 (wr.heap[w2.heap.size + 1]? = some (.cells #[u] 43 (0, 0))) ∧ Aside0 (Kd.R (Kd.int .i64) 3 wr w.heap.size (fun _ => True) u want) ∧ Aside0 (wr.heap[w.heap.size]? = some (.cells #[.bool false] 4 (0, 0))) ∧ Aside0 (Below w.heap.size w wr)) (fun v7 _ => l0.length - (intOf v7).toNat)
      case atStart => exact ⟨0, [], [], _, _, rfl, ⟨Nat.zero_le _, rfl, Nat.le_refl _⟩, HO, HBT, ⟨Kd.R_nil _ _ _ _ _⟩, HBO, ⟨Kd.R_nil _ _ _ _ _⟩, HR4, HW4⟩
      case round =>
        clear HO HBT HBO HR4 HW4
        obtain ⟨j, es, want, v, u, rfl, HJ, HT, HBT, HRT, HBO, HRW, HRB, HW⟩ := hrel
        by_cases hj : j < l0.length
        case pos =>
          have ht := HT.out
          rw [List.drop_eq_getElem_cons hj] at ht
          obtain ⟨e0, he0⟩ : ∃ e0, l0[j] = e0 := ⟨_, rfl⟩
          rw [he0, tabsG] at ht
          by_cases hle : e0.length < 4398046511104
          case neg => rw [if_neg hle] at ht; cases ht
          rw [if_pos hle] at ht
          obtain ⟨rr, hrr, ht⟩ := Option.bind_eq_some_iff.1 ht
          obtain ⟨ak, B1, d1, hA0, y0, q1, g1⟩ := at_L2 (Kd.F_now HF0.out) (j : Int) (by omega) (by omega)
          simp only [Int.toNat_natCast] at y0
          have hee : rd_L2 l0 (j : Int) = e0 := by unfold rd_L2; rw [Int.toNat_natCast, List.getD_eq_getElem?_getD, List.getElem?_eq_getElem hj, he0]; rfl
          rw [hee] at y0 q1 g1
          have G1 := Aside0.mk (Kd.C_F (Kd.heap_iso _ (Kd.heap_pair Kd.heap_string Kd.heap_string)) g1)
          have Q1 := Aside0.mk q1
          have yc := fun (V : World) (hb : Below w.heap.size w V) => (hb.cell (World.block_lt_of_cell? _ _ y0)).trans y0
          have y1 := yc wr HW.out
          have YC := Aside0.mk yc
          have b13 := pentaglotref02_Record.calls k B1 d1 e0 rr wr (Kd.F_now (Kd.F_below G1.out HW.out)) Q1.out hrr
          have hj0 : (0 : Int) ≤ (j : Int) := Int.natCast_nonneg _
          have hj1 : (j : Int) < (l0.length : Int) := by omega
          have HLE := Aside0.mk hle
          have HJJ := Aside0.mk hj
          subst hA0
          clear hee he0 g1 q1 hle hrr hj HT y0 yc
          cases rr with
          | false =>
            rw [if_neg (by decide)] at ht
            obtain rfl := Option.some.inj ht
            obtain rfl := Option.some.inj H.out
            clear ht
            go_wp2_with (go_at_call 13; refine b13.mono ?_; rintro e w5 ⟨rfl, hd5⟩; have hb5 := hd5.below; have HB5 := Aside0.mk hb5; have x4 : w5.cell? ⟨w.heap.size, 0, none⟩ = some (.bool false) := (blk_cell (blk_below HRB.out hb5) 0).trans rfl; have f4 := blk_frozen (blk_below HRB.out hb5) 0; clear hd5 hb5 b13)
            exact tables_leave w _ _ rfl true (blk_put (blk_below HRB.out HB5.out) 0 _ rfl) (below_set (HW.out.trans (HB5.out.mono HW.out.size)) (Nat.le_refl _))
          | true =>
            rw [if_pos rfl] at ht
            obtain ⟨s, hs, ht⟩ := Option.bind_eq_some_iff.1 ht
            have HTT := Aside0.mk ht
            obtain ⟨Au, cu, rfl⟩ := Kd.R_slice HRW.out
            have b28 := fun (V : World) (hb : Below wr.heap.size wr V) => Add_any w.heap.size w2.heap.size v es B1 d1 e0 ((j : Int) + 1) V (blk_below HBT.out hb) (Kd.R_below HRT.out hb) (Nat.le_trans HW.out.size hb.size) (by have := HJ.out.2.1; omega) (Kd.F_now (Kd.F_below (Kd.F_below G1.out HW.out) hb)) Q1.out HLE.out
            have b29 := fun (V : World) (hb : Below w.heap.size w V) => pentaglotref02_Subsumes.calls k B1 d1 e0 A1 c1 l1 s V (Kd.F_now (Kd.F_below G1.out hb)) Q1.out (Kd.F_now (Kd.F_below HF1.out hb)) HC1.out hs
            have hvo : ∀ i, v.ownBlock = some i → w.heap.size ≤ i := Kd.R_base HRT.out
            have hnr : some w.heap.size ≠ v.ownBlock := Kd.R_ne HRT.out HRB.out (by decide)
            have hnw : some (w2.heap.size + 1) ≠ v.ownBlock := Kd.R_ne HRT.out HBO.out (by decide)
            have hnu : ∀ i, (Value.slice Au want.length cu).ownBlock = some i → some i ≠ v.ownBlock := fun i hi => by obtain ⟨cells, hc⟩ := Kd.R_typed HRW.out i hi; exact Kd.R_ne HRT.out hc (by decide)
            have hnb : ∀ i, (Value.slice Au want.length cu).ownBlock = some i → i ≠ w2.heap.size := fun i hi => by obtain ⟨cells, hc⟩ := Kd.R_typed HRW.out i hi; exact blk_ne hc HBT.out (by decide)
            have HNB := Aside0.mk hnb
            have HVO := Aside0.mk hvo
            have HNR := Aside0.mk hnr
            have HNW := Aside0.mk hnw
            have HNU := Aside0.mk hnu
            clear ht hs hvo hnr hnw hnu hnb
            have hS2 := HS2.out
            cases s with
            | false =>
              rw [if_neg (by decide)] at HTT
              go_wp2_with (first
                | (go_at_call 13; refine b13.mono ?_; rintro e w5 ⟨rfl, hd5⟩; have hb5 := hd5.below; have HB5 := Aside0.mk hb5; have y5 := YC.out w5 (HW.out.trans (hb5.mono HW.out.size)); clear hd5 hb5 b13)
                | (go_at_call 28; refine (b28 _ HB5.out).mono ?_; rintro e w6 ⟨⟨uu, rfl⟩, v1, hbt1, hrt1, hk1⟩
                   have hb56 : Below w.heap.size w5 w6 := hk1.below (Nat.le_trans HW.out.size HB5.out.size) (fun i hi => ⟨by omega, fun he => by have := HVO.out i he.symm; omega⟩)
                   have HB6 := Aside0.mk ((HW.out.trans (HB5.out.mono HW.out.size)).trans hb56)
                   have HBT1 := Aside0.mk hbt1
                   have HRT1 := Aside0.mk hrt1
                   have HK1 := Aside0.mk hk1
                   have y6 := YC.out w6 HB6.out
                   clear b28 hbt1 hrt1 hk1 hb56)
                | (go_at_call 29; refine (b29 _ HB6.out).mono ?_; rintro e w7 ⟨rfl, hb7⟩; have HB7 := Aside0.mk hb7; clear hb7 b29))
              go_roundw
              case rel => exact ⟨j + 1, _, want, v1, _, by go_num, ⟨HJJ.out, by simp [HJ.out.2.1], by have := HJ.out.2.2; omega⟩, HTT, ⟨blk_below HBT1.out HB7.out⟩, ⟨Kd.R_below HRT1.out HB7.out⟩, ⟨blk_below (HK1.out.blk (blk_below HBO.out HB5.out) ⟨by omega, HNW.out⟩) HB7.out⟩, ⟨Kd.R_below (ints_keep (Kd.R_below HRW.out HB5.out) HK1.out (fun i hi => ⟨HNB.out i hi, HNU.out i hi⟩)) HB7.out⟩, ⟨blk_below (HK1.out.blk (blk_below HRB.out HB5.out) ⟨by omega, HNR.out⟩) HB7.out⟩, ⟨HB6.out.trans (HB7.out.mono HB6.out.size)⟩⟩
              case measure => simp [intOf]; omega
            | true =>
              rw [if_pos rfl] at HTT
              have h60j : want.length ≤ 60 := by have := HJ.out.2.2; omega
              go_wp2_with (first
                | (go_at_call 13; refine b13.mono ?_; rintro e w5 ⟨rfl, hd5⟩; have hb5 := hd5.below; have HB5 := Aside0.mk hb5; have y5 := YC.out w5 (HW.out.trans (hb5.mono HW.out.size)); clear hd5 hb5 b13)
                | (go_at_call 28; refine (b28 _ HB5.out).mono ?_; rintro e w6 ⟨⟨uu, rfl⟩, v1, hbt1, hrt1, hk1⟩
                   have hb56 : Below w.heap.size w5 w6 := hk1.below (Nat.le_trans HW.out.size HB5.out.size) (fun i hi => ⟨by omega, fun he => by have := HVO.out i he.symm; omega⟩)
                   have HB6 := Aside0.mk ((HW.out.trans (HB5.out.mono HW.out.size)).trans hb56)
                   have HBT1 := Aside0.mk hbt1
                   have HRT1 := Aside0.mk hrt1
                   have HK1 := Aside0.mk hk1
                   have y6 := YC.out w6 HB6.out
                   clear b28 hbt1 hrt1 hk1 hb56)
                | (go_at_call 29; refine (b29 _ HB6.out).mono ?_; rintro e w7 ⟨rfl, hb7⟩; have HB7 := Aside0.mk hb7; have HBO7 := Aside0.mk (blk_below (HK1.out.blk (blk_below HBO.out HB5.out) ⟨by omega, HNW.out⟩) hb7); have x7 : w7.cell? ⟨w2.heap.size + 1, 0, none⟩ = some (.slice Au want.length cu) := (blk_cell HBO7.out 0).trans rfl; have HRW7 := Aside0.mk (Kd.R_below (ints_keep (Kd.R_below HRW.out HB5.out) HK1.out (fun i hi => ⟨HNB.out i hi, HNU.out i hi⟩)) hb7); have HW7 := Aside0.mk (HB6.out.trans (hb7.mono HB6.out.size)); clear hb7 b29)
                | ((with_reducible refine gate_builtin (b := .append) (xs := #[.tmp 49, .tmp 52]) rfl ?_); at_builtin; refine Kd.R_append (Kd.int .i64) (w0 := w) w.heap.size rfl (.tmp 49) (.tmp 52) 43 3 (.int .i64 0) 8 rfl Try.underlying43 info3_ rfl (by decide) (by omega) (.slice Au want.length cu) want ((j : Int) + 1) [.int .i64 ((j : Int) + 1)] (fun _ => True) (fun _ => False) rfl rfl rfl (fun _ h => h.elim) (fun _ _ => trivial) HRW7.out HW7.out HW7.out.size (by have := HJ.out.2.2; omega) ?_; intro v8 w8 ho8 hb8 hg8 hat8; obtain ⟨A8, c8, rfl⟩ := Kd.R_slice ho8; rw [show (want ++ [(j : Int) + 1]).length = want.length + 1 by simp] at ho8; have HO8 := Aside0.mk ho8; have HB8 := Aside0.mk hb8; have HG8 := Aside0.mk hg8; have HBO8 := Aside0.mk (blk_grown HBO7.out hg8 (Kd.R_ne HRW7.out HBO7.out (by decide))); have x8 : w8.cell? ⟨w2.heap.size + 1, 0, none⟩ = some (.slice Au want.length cu) := (blk_cell HBO8.out 0).trans rfl; have f8 := blk_frozen HBO8.out 0; clear ho8 hb8 hg8 hat8))
              have HBT7 := Aside0.mk (blk_below HBT1.out HB7.out)
              have HRB7 := Aside0.mk (blk_below (HK1.out.blk (blk_below HRB.out HB5.out) ⟨by omega, HNR.out⟩) HB7.out)
              have HRT7 := Aside0.mk (Kd.R_below HRT1.out HB7.out)
              go_roundw
              case rel => exact ⟨j + 1, _, _, v1, _, by go_num, ⟨HJJ.out, by simp [HJ.out.2.1], by have := HJ.out.2.2; simp; omega⟩, HTT,
                ⟨blk_far (blk_grown HBT7.out HG8.out (Kd.R_ne HRW7.out HBT7.out (by decide))) (p := ⟨w2.heap.size + 1, 0, none⟩) (by show w2.heap.size ≠ w2.heap.size + 1; omega) _⟩,
                ⟨Kd.R_set (Kd.R_over' HRT7.out (Kd.R_typed HRW7.out) (by decide) HG8.out) HBO8.out (by decide) 0 _⟩,
                ⟨blk_put HBO8.out 0 _ rfl⟩, ⟨Kd.R_set HO8.out HBO8.out (by decide) 0 _⟩,
                ⟨blk_far (blk_grown HRB7.out HG8.out (Kd.R_ne HRW7.out HRB7.out (by decide))) (p := ⟨w2.heap.size + 1, 0, none⟩) (by show w.heap.size ≠ w2.heap.size + 1; omega) _⟩,
                ⟨below_set HB8.out (by show w.heap.size ≤ w2.heap.size + 1; omega)⟩⟩
              case measure => simp [intOf]; omega
        case neg =>
          have hje : j = l0.length := by have := HJ.out.1; omega
          have ht := HT.out
          rw [List.drop_of_length_le (by omega), tabsG] at ht
          obtain rfl := Option.some.inj ht
          have h := H.out
          simp only at h
          by_cases hm : matchesG k l1 es = some want
          case neg => rw [if_neg hm] at h; cases h
          rw [if_pos hm] at h
          obtain rfl := Option.some.inj h
          have HM := Aside0.mk hm
          obtain ⟨Av, cv, rfl⟩ := Kd.R_slice HRT.out
          have hes : (es.length : Int) = (l0.length : Int) := by have := HJ.out.2.1; omega
          have hwl : want.length ≤ 60 := by have := HJ.out.2.2; omega
          have a30 := Find_any k w2.heap.size Av cv es A1 c1 l1 wr HBT.out (Kd.F_mono (Kd.R_F HRT.out) (fun _ _ => trivial)) (Kd.F_mono (Kd.F_below HF1.out HW.out) (fun _ _ => trivial)) HC1.out (by have := HJ.out.2.1; omega) want hm
          have a31 := fun (V : World) (hb : Below wr.heap.size wr V) => Len_any w2.heap.size Av es.length cv V (blk_below HBT.out hb)
          obtain ⟨Au, cu, rfl⟩ := Kd.R_slice HRW.out
          clear ht h hm hje HT H
          go_upto_region 16 with (go_at_call 30; refine a30.mono ?_; rintro e w5 ⟨rfl, hb5⟩; have HB5 := Aside0.mk hb5; have x6 : w5.cell? ⟨w2.heap.size + 1, 0, none⟩ = some (.slice Au want.length cu) := (blk_cell (blk_below HBO.out hb5) 0).trans rfl; have a31 := a31 w5 hb5; clear hb5 a30)
          have HRW5 := Aside0.mk (Kd.R_below HRW.out HB5.out)
          go_cut [89] from 60 to 89 (fun v89 wx => v89 = .bool false ∧ wx = w5)
          case first =>
            cases want with
            | nil =>
              go_wp2_with (go_at_call 31; refine a31.mono ?_; rintro e w6 ⟨rfl, rfl⟩; clear a31)
              go_meet
              exact ⟨by first | rfl | (simp; done) | (simp; omega), rfl⟩
            | cons y ys =>
              obtain ⟨_, _, hC⟩ := Kd.R_reads' HRW5.out
              obtain ⟨au, hau, hcu⟩ := Kd.at_int hC 0 (by omega) (by simp)
              subst hau
              obtain ⟨gu, rfl⟩ := Kd.R_head HRW5.out
              clear hC
              have hcu : w5.cell? ⟨gu, 0, none⟩ = some (.int .i64 y) := by rw [Int.toNat_zero, add_plain] at hcu; exact hcu
              go_wp2_with (go_at_call 31; refine a31.mono ?_; rintro e w6 ⟨rfl, rfl⟩; clear a31)
              go_meet
              exact ⟨by first | rfl | (simp; done) | (simp; omega), rfl⟩
          obtain ⟨rfl, rfl⟩ := hcut
          have hcM := fun (V : World) => Matches_any w2.heap.size A1 l1.length c1 V
          clear a31 x6
          go_wp2_with (go_at_call 32; refine (hcM _).mono ?_; rintro e w6 ⟨rfl, rfl⟩; clear hcM)
          obtain ⟨wR, hwR⟩ : ∃ wR, ((wc.alloc (.cells #[.int .i64 0] 3)).alloc (.cells #[.pointer (some ⟨w2.heap.size, 0, none⟩)] 41)).alloc (.cells #[.slice A1 l1.length c1] 22) = wR := ⟨_, rfl⟩
          have hzR : wR.heap.size = wc.heap.size + 3 := by rw [← hwR]; simp
          have hn0 : wR.heap[wc.heap.size]? = some (.cells #[.int .i64 0] 3 (0, 0)) := by rw [← hwR]; exact blk_alloc (blk_alloc (heap_alloc_new _ _) _) _
          have hn1 : wR.heap[wc.heap.size + 1]? = some (.cells #[.pointer (some ⟨w2.heap.size, 0, none⟩)] 41 (0, 0)) := by
            rw [← hwR]
            have h := heap_alloc_new (wc.alloc (.cells #[.int .i64 0] 3)) (.cells #[.pointer (some ⟨w2.heap.size, 0, none⟩)] 41)
            rw [World.size_alloc] at h
            exact blk_alloc h _
          have hn2 : wR.heap[wc.heap.size + 2]? = some (.cells #[.slice A1 l1.length c1] 22 (0, 0)) := by
            rw [← hwR]
            have h := heap_alloc_new ((wc.alloc (.cells #[.int .i64 0] 3)).alloc (.cells #[.pointer (some ⟨w2.heap.size, 0, none⟩)] 41)) (.cells #[.slice A1 l1.length c1] 22)
            simp only [World.size_alloc] at h
            exact h
          have hbR : Below wc.heap.size wc wR := by rw [← hwR]; exact below_alloc (below_alloc (below_alloc (Below.refl _ _) _) _) _
          rw [hwR]
          clear hwR
          have hsc := HB5.out.size
          have hbcR := HB5.out.trans (hbR.mono hsc)
          have hlbt := blk_lt HBT.out
          have hlbo := blk_lt HBO.out
          have hlrb := blk_lt HRB.out
          have hit := matches1_iter k w2.heap.size (wc.heap.size + 1) (wc.heap.size + 2) (fun i => i < wR.heap.size ∧ i ≠ wc.heap.size) Av cv es A1 c1 l1 wR hn1 hn2 (blk_below HBT.out hbcR) (Kd.F_below (Kd.F_mono (Kd.F_bound (Kd.R_F HRT.out)) (fun i hi => ⟨by have := hi.2; omega, by have := hi.2; omega⟩)) hbcR)
            (Kd.F_below (Kd.F_below (Kd.F_mono (Kd.F_bound HF1.out) (fun i hi => ⟨by have := hi.2; have := HW.out.size; omega, by have := hi.2; have := HW.out.size; omega⟩)) HW.out) hbcR) HC1.out ⟨by omega, by omega⟩ ⟨by omega, by omega⟩ ⟨by omega, by omega⟩ (fun i hi h => by omega) (by have := HJ.out.2.1; omega) want HM.out
          have HBR := Aside0.mk hbcR
          have HBO6 := Aside0.mk (blk_below HBO.out hbcR)
          have HRB6 := Aside0.mk (blk_below HRB.out hbcR)
          have HRW6 := Aside0.mk (Kd.R_below HRW.out hbcR)
          have HW6 := Aside0.mk (HW.out.trans (hbcR.mono HW.out.size))
          have hlu : ∀ i, (Value.slice Au want.length cu).ownBlock = some i → i < wr.heap.size := Kd.R_lt HRW.out
          refine wp_rangeFunc_iter1 (gf := 50) (lb := #[.pointer (some ⟨wc.heap.size + 1, 0, none⟩), .pointer (some ⟨wc.heap.size + 2, 0, none⟩)]) (Rel := relI) (Z := fun i => i < wR.heap.size ∧ i ≠ wc.heap.size) (w0 := wR) (xs := want) rfl (enters_of Try.func50 (by kernel_rfl) rfl) hit (Below.refl _ _) relI_put
            (fun Y pre A => Y wc.heap.size ∧ A.heap[wc.heap.size]? = some (.cells #[.int .i64 (pre.length : Int)] 3 (0, 0)) ∧ KeepS (fun i => i < wR.heap.size ∧ i ≠ wc.heap.size) wR A) (fun _ _ _ _ => False)
            ?hI (fun _ _ _ _ _ h _ => h) (fun i => i = wc.heap.size) ?Y0 ?hZ ⟨rfl, hn0, KeepS.refl _ _⟩ ?asg ?assign ?body ?done (fun _ _ _ _ _ _ _ h _ => h.elim)
          case assign =>
            intro l v A K hK
            refine wpIn_region_of (r := some l) (by intro a w h; exact h) (by simp) ?_
            go_wp2
            exact hK
          case hI => exact fun Y pre A B ⟨h1, h2, h3⟩ hk => ⟨h1, hk.blk h2 (.inr h1), h3.trans (hk.mono (fun i _ hi => .inl hi.1))⟩
          case Y0 => exact fun i hi => ⟨by omega, fun h => h.2 hi⟩
          case hZ => exact fun i hi h => by omega
          case body =>
            rintro l m Y pre x v S A hpre ⟨hy, hn, hk⟩ hrel hl hlm hm hY hS
            obtain rfl : v = .int .i64 x := hrel
            have hpl := hpre.length_le
            rw [List.length_append, List.length_singleton] at hpl
            have hx : rd want (pre.length : Int) = x := by
              obtain ⟨t, rfl⟩ := hpre
              unfold rd
              simp
            have hbo := hk.blk HBO6.out ⟨by omega, by omega⟩
            have hRA := ints_keep HRW6.out hk (fun i hi => ⟨by have := hlu i hi; omega, by have := hlu i hi; omega⟩)
            obtain ⟨_, _, hC⟩ := Kd.R_reads' hRA
            obtain ⟨au, hau, hcu⟩ := Kd.at_int hC (pre.length : Int) (by omega) (by omega)
            subst hau
            obtain ⟨gu, rfl⟩ := Kd.R_head hRA
            rw [hx, Int.toNat_natCast, add_plain] at hcu
            have x0 : A.cell? ⟨wc.heap.size, 0, none⟩ = some (.int .i64 (pre.length : Int)) := (blk_cell hn 0).trans rfl
            have f0 := blk_frozen hn 0
            have x1 : A.cell? ⟨w2.heap.size + 1, 0, none⟩ = some (.slice (some ⟨gu, 0, none⟩) want.length cu) := (blk_cell hbo 0).trans rfl
            have hq0 : (0 : Int) ≤ (pre.length : Int) := Int.natCast_nonneg _
            have hq1 : (pre.length : Int) < (want.length : Int) := by omega
            have hq2 : decide (want.length ≤ pre.length) = false := decide_eq_false (by omega)
            have hq3 : ¬ want.length ≤ pre.length := by omega
            have HN := Aside0.mk hn
            have HK := Aside0.mk hk
            clear hn hk hC hx hpre hbo hRA
            refine wpIn_block ?_
            refine wpIn_seq ?_
            refine wpIn_seq ?_
            refine wpIn_region_of (r := some l) (by rintro a w ⟨Y', h1, h2, h3, h⟩; exact h) (by simp) ?_
            go_wp2
            refine wpIn_cond_false rfl ?_
            refine wpIn_skip ?_
            refine wpIn_region_of (r := some l) (by rintro a w ⟨Y', h1, h2, h3, h⟩; exact h) (by simp) ?_
            go_wp2
            refine ⟨Y, fun i hi => .inl hi, fun i hi => by have := (hY i hi).1; simp [World.setCell]; omega, KeepS.set_ _ _ _ (fun h => h.2.1 hy), hy, ?_, (HK.out.trans (KeepS.set_ A ⟨wc.heap.size, 0, none⟩ _ (fun h => h.2 rfl))).mono (fun i _ hi => ⟨by rw [hzR]; exact hi.1, hi.2⟩)⟩
            rw [List.length_append, List.length_singleton]
            exact blk_put HN.out 0 _ rfl
          case done =>
            rintro D Y V hD ⟨hy, hn, hk⟩ hK
            have x0 : V.cell? ⟨wc.heap.size, 0, none⟩ = some (.int .i64 (want.length : Int)) := (blk_cell hn 0).trans rfl
            have hbo := hk.blk HBO6.out ⟨by omega, by omega⟩
            have x1 : V.cell? ⟨w2.heap.size + 1, 0, none⟩ = some (.slice Au want.length cu) := (blk_cell hbo 0).trans rfl
            have hrb := hk.blk HRB6.out ⟨by omega, by omega⟩
            have x4 : V.cell? ⟨w.heap.size, 0, none⟩ = some (.bool false) := (blk_cell hrb 0).trans rfl
            have f4 := blk_frozen hrb 0
            have hS2 := HS2.out
            have HK := Aside0.mk hk
            have HKD := Aside0.mk hK
            have HRB7 := Aside0.mk hrb
            clear hk hK hn hbo hrb
            go_wp2
            have hbv := below_set (HW6.out.trans (HK.out.below HW6.out.size (fun i hi => ⟨by have := HW6.out.size; omega, by omega⟩))) (g := w.heap.size) (j := 0) (v := .bool true) (Nat.le_refl _)
            have kd := (Below.heap_setCell V ⟨w.heap.size, 0, none⟩ (.bool true) D (by show D ≠ w.heap.size; omega)).trans HKD.out
            have cb := blk_put HRB7.out 0 (.bool true) rfl
            generalize V.setCell ⟨w.heap.size, 0, none⟩ (.bool true) = V2 at hbv kd cb ⊢
            have q0 : (V2.putObj D (.deferred none)).cell? ⟨w.heap.size, 0, none⟩ = some (.bool true) := (blk_cell ((World.putObj_heap_other (by omega)).trans cb) 0).trans rfl
            exact leavesM_mark kd (leavesM_nil (v := .bool true) (by simp [results, Try.results9, go_sem, q0]) ⟨rfl, below_putObj hbv (by omega) _⟩)

/-- THE ONE PURE STATEMENT of pentaglotlaw02_FeatureTables. -/
def pentaglotlaw02_FeatureTables.Pure : Prop := ∀ (p0 : List (List (S33))) (p1 : List (S33)), (∀ a ∈ p0, (∀ a_ ∈ a, wf33 a_)) → (∀ a ∈ p1, wf33 a) → ((p0.map (fun l => (l.map bulk33).sum + 1)).sum + 1) + ((p1.map bulk33).sum + 1) ≤ 1048576 → ∃ k, pentaglotlaw02_FeatureTables.f k p0 p1 = some true

end Go.Proofs.Ytnfdhfclibdbmaa.P
