-- Written by the session's own program wip/tools/xprint.py out of the translation, with the kit's print.py on a scratch copy; functions given by hand stand among them.
import Derived.Test.YtflknolnclnhfaaPx0
import Derived.Test.YtflknolnclnhfaaPx1
import Derived.Test.YtflknolnclnhfaaPx2
import Derived.Test.YtflknolnclnhfaaPx3
namespace Go.Proofs.Ytflknolnclnhfaa.P
open Go.RowKit Go.Proofs.YtflknolnclnhfaaW.PrintWords Go.Proofs.YtflknolnclnhfaaW.PrintLast Go.Proofs.YtflknolnclnhfaaW.PrintMore
attribute [local go_sem] max2_int min2_int max_two min_two max_three min_three max_four min_four   -- for this text's walks alone
set_option linter.unusedVariables false
set_option linter.unusedSimpArgs false

/-! ### pentaglotlaw28_same: function 24 -/
def pentaglotlaw28_same.f (k : Nat) (l0 : List Bool) (l1 : List Bool) : Option (Bool) := (pentaglotref28_Same.f k l0 l1).bind fun t125 => (some t125)
theorem pentaglotlaw28_same.mono : ∀ a0 a1 k, LeO (pentaglotlaw28_same.f k a0 a1) (pentaglotlaw28_same.f (k + 1) a0 a1) := by
  intro a0 a1 k
  unfold pentaglotlaw28_same.f
  repeat' first
      | (with_reducible exact pentaglotref28_Same.mono _ _ _)
      | (with_reducible exact LeO.refl _)
      | (with_reducible exact LeO.none _)
      | (with_reducible refine LeO.ite ?_ ?_)
      | (with_reducible refine LeO.bind ?_ (fun _ => ?_))
      | exact pentaglotref28_Same.mono _ _ _
      | exact LeO.none _
      | refine LeO.ite ?_ ?_
      | refine LeO.bind ?_ (fun _ => ?_)
set_option maxHeartbeats 8000000 in
set_option maxRecDepth 100000 in
theorem pentaglotlaw28_same.calls (k : Nat) (A0 : Option Addr) (c0 : Nat) (l0 : List Bool) (A1 : Option Addr) (c1 : Nat) (l1 : List Bool) (r : Bool) (w : World) (hr0 : Kd.C Kd.bool w A0 l0.length l0) (hc0 : l0.length ≤ c0) (hr1 : Kd.C Kd.bool w A1 l1.length l1) (hc1 : l1.length ≤ c1) (h : pentaglotlaw28_same.f k l0 l1 = some r) :
    Calls Try.prog 24 #[.slice A0 l0.length c0, .slice A1 l1.length c1] w fun e w' => e = .returned (.bool r) ∧ Drawn0 w w' := by
  have HR0 := Aside0.mk hr0
  have HC0 := Aside0.mk hc0
  clear hr0 hc0
  have HR1 := Aside0.mk hr1
  have HC1 := Aside0.mk hc1
  clear hr1 hc1
  have H : ((pentaglotref28_Same.f k l0 l1).bind fun t125 => (some t125)) = some r := h
  clear h
  replace H := Option.bind_eq_some_iff.mp H
  obtain ⟨t125, A30, H⟩ := H
  replace H : (some t125) = some r := H
  have A3 := Aside0.mk A30
  clear A30
  obtain rfl := Option.some.inj H
  go_enter Try.func24, Try.ntmps24
  go_wp2_with (first | ((with_reducible refine gate_callee (f := 40) rfl ?_); refine goesL_ (some 7) rfl rfl Try.func40 (by kernel_rfl) rfl #[.slice A0 l0.length c0, .slice A1 l1.length c1] rfl (by (try simp only [List.map_toArray, List.map_cons, List.map_nil]); first | done | rfl | (simp only [List.length_drop, List.length_take]; rfl)) ?_; (with_reducible refine (pentaglotref28_Same.calls k _ _ l0 _ _ l1 t125 _ ?side1 ?side2 ?side3 ?side4 A3.out).mono ?_); (case side1 => repeat (first | exact HR0.out | (with_reducible refine Kd.C_alloc ?_ _) | (with_reducible refine Kd.C_drewN ?_ _) | (with_reducible refine Kd.C_drew ?_))); (case side2 => exact HC0.out); (case side3 => repeat (first | exact HR1.out | (with_reducible refine Kd.C_alloc ?_ _) | (with_reducible refine Kd.C_drewN ?_ _) | (with_reducible refine Kd.C_drew ?_))); (case side4 => exact HC1.out); rintro e w' ⟨rfl, ⟨nd, rfl⟩⟩; refine ⟨_, rfl, ?_⟩))
  go_ret
  exact ⟨by first | rfl | (simp [pw_isEmpty]; done) | (simp; done) | (simp [*]; done), by repeat (first | exact Drawn0.refl _ | apply Drawn0.step)⟩

-- NOT PRINTED: function 26 (sat_All)

/-! ### sat_Count: function 25, by hand -/
-- leans on 22 19
/-- The bits of a number, the highest first. -/
def bitG (m n i : Nat) : Int := ((n / 2 ^ (m - 1 - i) % 2 : Nat) : Int)
theorem two63' : (2 : Int) ^ 63 = 9223372036854775808 := by decide
theorem and_one' (i : Nat) (hi : i < 9223372036854775808) : bits BinOp.and IntKind.i64 (i : Int) 1 = ((i % 2 : Nat) : Int) := by
  have h := bits_mask .i64 63 (by decide) (fun n h0 h1 => by rw [two63'] at h1; rw [IntKind.wrap_i64]; omega) 1 (by decide) (i : Int) (by omega) (by rw [two63']; omega)
  have e : ((2 : Int) ^ 1 - 1) = 1 := by decide
  rw [e] at h
  rw [h]
  omega
theorem bit_and (m n i : Nat) (hn : n ≤ 65536) : bits BinOp.and IntKind.i64 ((n : Int) / 2 ^ (m - 1 - i)) 1 = bitG m n i := by
  have e : ((n : Int) / 2 ^ (m - 1 - i)) = ((n / 2 ^ (m - 1 - i) : Nat) : Int) := by simp
  have h := Nat.div_le_self n (2 ^ (m - 1 - i))
  rw [e, and_one' _ (by omega)]
  rfl
theorem take_set {α : Type} (l : List α) (d : α) (m q : Nat) (hl : l.length = m) (hq : q < m) : (l.take q ++ List.replicate (m - q) d).set q (l[q]'(by omega)) = l.take (q + 1) ++ List.replicate (m - (q + 1)) d := by
  rw [List.take_succ_eq_append_getElem (by omega : q < l.length), show m - q = (m - (q + 1)) + 1 by omega, List.replicate_succ, List.set_append, if_neg (by simp; omega), List.append_assoc]
  simp [Nat.min_eq_left (by omega : q ≤ l.length)]
def bitsG (m n : Nat) : List Int := (List.range m).map (bitG m n)
theorem bitsG_length (m n : Nat) : (bitsG m n).length = m := by simp [bitsG]
theorem bitsG_get (m n q : Nat) (h : q < m) : (bitsG m n)[q]'(by rw [bitsG_length]; exact h) = bitG m n q := by simp [bitsG]
/-- All satisfying assignments, as they come: r numbers are still to be looked at. -/
def allG (gs : List S52) (n2 : Int) (m : Nat) : Nat → Nat → List Int → Option (List (List Bool))
  | 0, _, _ => some []
  | r + 1, n, vs => (outF gs n2 (bitsG m n) vs).bind fun o => (allG gs n2 m r (n + 1) o.1).bind fun l => some (if o.2 = 1 then (bitsG m n).map (fun b => b == 1) :: l else l)
def sat_All.seq (k : Nat) (n0 : Int) (gs : List S52) (n2 : Int) : Option (List (List Bool)) :=
  (sat_Check.f k n0 gs n2).bind fun t => if t = true then (if n0 > 16 then some [] else if 0 ≤ n0 then (if gs.length ≤ 1000000 then allG gs n2 n0.toNat (2 ^ n0.toNat) 0 (List.replicate gs.length 0) else none) else none) else some []
theorem sat_All.mono (n0 : Int) (gs : List S52) (n2 : Int) (k : Nat) : LeO (sat_All.seq k n0 gs n2) (sat_All.seq (k + 1) n0 gs n2) := LeO.bind (sat_Check.mono _ _ _ _) (fun t => LeO.refl _)
/-- A list of bools that is handed over. -/
def relB (N : Nat) (x : List Bool) (v : Value) (S : Nat → Prop) (A : World) : Prop := Kd.R Kd.bool 4 A N S v x
theorem relB_put (N : Nat) (x : List Bool) (v : Value) (S : Nat → Prop) (A : World) (l : Nat) (r : Loop) (o : Obj) (h : relB N x v S A) (hl : A.heap[l]? = some (.loop r)) : relB N x v S (World.putObj A l o) := by
  refine Kd.R_mono (Kd.R_move (Kd.R_bound h) (fun k hk => World.putObj_heap_other ?_)) (fun k hk => hk.1)
  obtain ⟨_, _, _, q, _, cells, hc⟩ := hk
  rintro rfl
  rw [hl] at hc
  cases hc
theorem IsEv.keepS {w W : World} {e g : Nat} {n0 n2 : Int} {A : Option Addr} {n c m : Nat} {vs : List Int} {S : Nat → Prop} (h : IsEv w e g n0 n2 A n c m vs) (hk : KeepS S w W) (he : S e) (hg : S g) : IsEv W e g n0 n2 A n c m vs := ⟨hk.blk h.he he, hk.blk h.hg hg, h.ne⟩
theorem outF_length {gs : List S52} {n2 : Int} {bits vs : List Int} {o : List Int × Int} (h : outF gs n2 bits vs = some o) : o.1.length = vs.length := by
  obtain ⟨v, hv, h3⟩ := Option.bind_eq_some_iff.1 h
  have hl := outG_length hv
  split at h3
  · have e := Option.some.inj h3
    have e1 : v = o.1 := congrArg Prod.fst e
    rw [← e1]
    exact hl
  · cases h3
theorem KB.keepS {w W : World} {g N : Nat} (h : KB w W g N) : KeepS (fun i => i ≠ g) w W := ⟨h.bel.os, h.bel.tape, h.bel.output, h.keep.1, fun i hi hne => h.keep.2 i hi hne (by simp)⟩
theorem R_bools' {w : World} {g base n : Nat} {l : List Bool} {ok : Nat → Prop} (h : w.heap[g]? = some (.cells (bvals l) 4 (0, 0))) (hb : base ≤ g) (hn : l.length = n) (hm : n ≤ 1000000) (hok : ok g) : Kd.R Kd.bool 4 w base ok (.slice (some ⟨g, 0, none⟩) n n) l := by
  subst hn
  refine Kd.R_of_own ⟨by simp [encs], .inr ⟨g, l.length, bvals l, rfl, hb, h, Nat.le_refl _, by unfold maxLen; omega, by simp [bvals], ?_⟩⟩ (fun k hk => ?_)
  · simp [bvals, encs, List.take_of_length_le]
  · have : g = k := by simpa [Value.ownBlock] using hk
    exact this ▸ hok
set_option maxHeartbeats 16000000 in
set_option maxRecDepth 100000 in
theorem all1_iter (k cb N : Nat) (n0 n2 : Int) (A : Option Addr) (c : Nat) (gs : List S52) (w : World) (hcb : w.heap[cb]? = some (.cells #[.int .i64 n0, .slice A gs.length c, .int .i64 n2] 24 (0, 0)))
    (hG : Kd.F k52 w (fun k => k < N) A gs.length gs) (hc : gs.length ≤ c) (hN : N ≤ w.heap.size) (xs : List (List Bool)) (h : sat_All.seq k n0 gs n2 = some xs) :
    IterC Try.prog 41 #[.pointer (some ⟨cb, 0, none⟩)] (fun x vs S A => ∃ v, vs = #[v] ∧ relB N x v S A) (fun k => k = cb ∨ k < N) w xs := by
  intro l J Jx Y W hW hY hJ hJx hR h0
  have hcW := blk_below hcb hW
  have hGW := Kd.F_below hG hW
  clear hcb hG
  obtain ⟨t, ht, h2⟩ := Option.bind_eq_some_iff.1 h
  clear h
  have hchk := fun (W1 : World) (hW1 : Below W.heap.size W W1) => sat_Check.calls k n0 A c gs n2 t W1 (Kd.F_now (Kd.F_below hGW hW1)) hc ht
  have hu24 := Try.underlying24
  clear ht
  have x0 : W.cell? ⟨cb, 0, none⟩ = some (.int .i64 n0) := (blk_cell hcW 0).trans rfl
  have x1 : W.cell? ⟨cb, 1, none⟩ = some (.slice A gs.length c) := (blk_cell hcW 1).trans rfl
  have x2 : W.cell? ⟨cb, 2, none⟩ = some (.int .i64 n2) := (blk_cell hcW 2).trans rfl
  show Calls Try.prog 41 #[.func (.yield l) #[] #[], .pointer (some ⟨cb, 0, none⟩)] W _
  have HCW := Aside0.mk hcW
  have HGW := Aside0.mk hGW
  have HJ := Aside0.mk hJ
  have HJX := Aside0.mk hJx
  have HRR := Aside0.mk hR
  have HY := Aside0.mk hY
  have H0 := Aside0.mk h0
  have HC := Aside0.mk hc
  have HNW := Aside0.mk (Nat.le_trans hN hW.size)
  clear hcW hGW hJ hJx hR hY h0 hW hc hN
  cases t with
  | false =>
    rw [if_neg (by decide)] at h2
    obtain rfl := Option.some.inj h2
    clear h2
    go_enter Try.func41, Try.ntmps41
    go_wp2_with (go_at_call 17; refine (hchk _ (Below.refl _ _)).mono ?_; rintro e w1 ⟨rfl, hb1⟩; have HB1 := Aside0.mk hb1; clear hb1 hchk)
    refine bodyPost_ret (results_none rfl _ _ _) rfl ?_
    exact ⟨⟨_, rfl⟩, HB1.out.size, Y, .inl (HJ.out _ _ _ _ H0.out (KeepS.of_below HB1.out (fun i hi _ => hi)))⟩
  | true =>
    rw [if_pos rfl] at h2
    by_cases h16 : n0 > 16
    · rw [if_pos h16] at h2
      obtain rfl := Option.some.inj h2
      clear h2
      go_enter Try.func41, Try.ntmps41
      go_wp2_with (go_at_call 17; refine (hchk _ (Below.refl _ _)).mono ?_; rintro e w1 ⟨rfl, hb1⟩; have HB1 := Aside0.mk hb1; have y0 : w1.cell? ⟨cb, 0, none⟩ = some (.int .i64 n0) := (blk_cell (blk_below HCW.out hb1) 0).trans rfl; clear hb1 hchk)
      refine bodyPost_ret (results_none rfl _ _ _) rfl ?_
      exact ⟨⟨_, rfl⟩, HB1.out.size, Y, .inl (HJ.out _ _ _ _ H0.out (KeepS.of_below HB1.out (fun i hi _ => hi)))⟩
    · rw [if_neg h16] at h2
      by_cases hn0 : 0 ≤ n0
      case neg => rw [if_neg hn0] at h2; cases h2
      rw [if_pos hn0] at h2
      by_cases hl : gs.length ≤ 1000000
      case neg => rw [if_neg hl] at h2; cases h2
      rw [if_pos hl] at h2
      obtain ⟨m, rfl⟩ := Int.eq_ofNat_of_zero_le hn0
      simp only [Int.toNat_natCast] at h2
      have hm16 : m ≤ 16 := by omega
      have H2 := Aside0.mk h2
      clear h2 hn0
      have hnew := fun (W1 : World) (hW1 : Below W.heap.size W W1) => newEvaluator_any (m : Int) A c gs n2 W1 (Kd.F_now (Kd.F_below HGW.out hW1)) hl
      obtain ⟨M, hM⟩ : ∃ M : Nat, 2 ^ m = M := ⟨_, rfl⟩
      have hMb : M ≤ 65536 := by rw [← hM]; exact Nat.pow_le_pow_right (by decide) hm16
      have hsh : IntKind.i64.wrap (2 ^ m) = (M : Int) := by
        have h2 : ((2 : Int) ^ m) = (M : Int) := by rw [← hM]; simp
        rw [h2, i64_w]
        unfold wrap64
        omega
      have H2' := H2.out
      rw [hM] at H2'
      have H2 := Aside0.mk H2'
      clear H2' hM
      go_enter Try.func41, Try.ntmps41
      go_wp2_with (first | (go_at_call 17; refine (hchk _ (Below.refl _ _)).mono ?_; rintro e w1 ⟨rfl, hb1⟩; have HB1 := Aside0.mk hb1; have y0 : w1.cell? ⟨cb, 0, none⟩ = some (.int .i64 m) := (blk_cell (blk_below HCW.out hb1) 0).trans rfl; have y1 : w1.cell? ⟨cb, 1, none⟩ = some (.slice A gs.length c) := (blk_cell (blk_below HCW.out hb1) 1).trans rfl; have y2 : w1.cell? ⟨cb, 2, none⟩ = some (.int .i64 n2) := (blk_cell (blk_below HCW.out hb1) 2).trans rfl; clear hb1 hchk) | (go_at_call 34; refine (hnew _ HB1.out).mono ?_; rintro e w2 ⟨b, g, rfl, hb, hg, hE, hb2⟩; have HB2 := Aside0.mk (HB1.out.trans (hb2.mono HB1.out.size)); have HE := Aside0.mk hE; have Hg := Aside0.mk (Nat.le_trans HB1.out.size hg); have Hb := Aside0.mk (Nat.le_trans HB1.out.size hb); have y0 : w2.cell? ⟨cb, 0, none⟩ = some (.int .i64 m) := (blk_cell (blk_below HCW.out HB2.out) 0).trans rfl; clear hb2 hE hg hb hnew))
      have hJ2 := HJ.out _ _ _ _ H0.out (KeepS.of_below HB2.out (fun i hi _ => hi))
      have HJ2 := Aside0.mk hJ2
      clear hJ2 hsh y0 y1 y2 x0 x1 x2
      have HSZ := Aside0.mk HB2.out.size
      go_loopw [21] (fun v21 wr => ∃ (j : Nat) (vs : List Int) (pre rest : List (List Bool)) (Y1 : Nat → Prop), v21 = .int .i64 (j : Int) ∧ Aside0 (j ≤ M ∧ vs.length = gs.length) ∧ Aside0 (allG gs n2 m (M - j) j vs = some rest ∧ pre ++ rest = xs) ∧
        Aside0 (IsEv wr b g m n2 A gs.length c gs.length vs) ∧ Aside0 (J Y1 pre wr) ∧ Aside0 (∀ k, Y1 k → k < wr.heap.size ∧ ¬ (k = cb ∨ k < N) ∧ k ≠ b ∧ k ≠ g) ∧ Aside0 (wr.heap[cb]? = some (.cells #[.int .i64 m, .slice A gs.length c, .int .i64 n2] 24 (0, 0))) ∧
        Aside0 (Kd.F k52 wr (fun k => k < N) A gs.length gs) ∧ Aside0 (W.heap.size ≤ wr.heap.size)) (fun v21 _ => M - (intOf v21).toNat)
      case atStart => exact ⟨0, _, [], xs, Y, rfl, ⟨Nat.zero_le _, List.length_replicate⟩, ⟨H2.out, rfl⟩, HE, HJ2, ⟨fun k hk => ⟨Nat.lt_of_lt_of_le (HY.out k hk).1 HSZ.out, (HY.out k hk).2, by have := (HY.out k hk).1; have := Hb.out; omega, by have := (HY.out k hk).1; have := Hg.out; omega⟩⟩, ⟨blk_below HCW.out HB2.out⟩, ⟨Kd.F_below HGW.out HB2.out⟩, HSZ⟩
      case round =>
        clear HE HJ2 H2 H0 HB2
        obtain ⟨j, vs, pre, rest, Y1, rfl, HJM, HA, HE, HJ2, HY1, HCB, HGR, HWS⟩ := hrel
        by_cases hj : j < M
        case neg =>
          go_wp2
          go_end0
          obtain ⟨ha, hpr⟩ := HA.out
          have hjm := HJM.out.1
          rw [show M - j = 0 by omega, allG] at ha
          obtain rfl := Option.some.inj ha
          rw [List.append_nil] at hpr
          subst hpr
          exact ⟨⟨_, rfl⟩, HWS.out, Y1, .inl HJ2.out⟩
        have x0 : wr.cell? ⟨cb, 0, none⟩ = some (.int .i64 m) := (blk_cell HCB.out 0).trans rfl
        obtain ⟨hja, hvl⟩ := HJM.out
        obtain ⟨ha, hpr⟩ := HA.out
        obtain ⟨r1, hr1⟩ : ∃ r1, M - j = r1 + 1 := ⟨M - j - 1, by omega⟩
        rw [hr1, allG] at ha
        obtain ⟨⟨vs1, o1⟩, ho, ha2⟩ := Option.bind_eq_some_iff.1 ha
        obtain ⟨l1, hl1, ha3⟩ := Option.bind_eq_some_iff.1 ha2
        have ha3 := Option.some.inj ha3
        clear ha ha2 HA
        have HO := Aside0.mk ho
        have HL1 := Aside0.mk hl1
        have HA3 := Aside0.mk ha3
        have HPR := Aside0.mk hpr
        have HR1 := Aside0.mk hr1
        have HVL := Aside0.mk hvl
        clear ho hl1 ha3 hpr hr1 hvl
        obtain ⟨i0, hi, hz0, hz1, hz2⟩ := info_parts info4
        have hmk4 := fun (W : World) => run_make (P := Try.prog) W 25 4 i0 (.bool false) Try.underlying25 hi hz0 .i64 .i64 (m : Int) (m : Int) (by omega) (by omega) (by rw [hz2]; omega) (by omega)
        simp only [Int.toNat_natCast, hz1, bvals_made] at hmk4
        clear hi hz0 hz1 hz2
        obtain ⟨i3, hi, hz0, hz1, hz2⟩ := info_parts info3
        have hmk3 := fun (W : World) => run_make (P := Try.prog) W 33 3 i3 (.int .i64 0) Try.underlying33 hi hz0 .i64 .i64 (m : Int) (m : Int) (by omega) (by omega) (by rw [hz2]; omega) (by omega)
        simp only [Int.toNat_natCast, hz1, ivals_made] at hmk3
        clear hi hz0 hz1 hz2
        go_upto_region 5 with (fail)
        go_cut [5, 6] (fun v5 v6 wx => ∃ bb ob, v5 = .slice (some ⟨bb, 0, none⟩) m m ∧ v6 = .slice (some ⟨ob, 0, none⟩) m m ∧ Aside0 (wr.heap.size ≤ bb ∧ wr.heap.size ≤ ob ∧ bb ≠ ob) ∧ Aside0 (wx.heap[bb]? = some (.cells (ivals (List.replicate m 0)) 3 (0, 0))) ∧ Aside0 (wx.heap[ob]? = some (.cells (bvals (List.replicate m false)) 4 (0, 0))) ∧ Aside0 (Below wr.heap.size wr wx))
        case first =>
          have z3 : (wr.alloc (.cells (ivals (List.replicate m 0)) 3)).cell? ⟨cb, 0, none⟩ = some (.int .i64 m) := (blk_cell (blk_alloc HCB.out _) 0).trans rfl
          have z4 : (wr.alloc (.cells (bvals (List.replicate m false)) 4)).cell? ⟨cb, 0, none⟩ = some (.int .i64 m) := (blk_cell (blk_alloc HCB.out _) 0).trans rfl
          go_region
          all_goals go_wp2
          all_goals go_meet
          · refine ⟨wr.heap.size, wr.heap.size + 1, rfl, rfl, ⟨Nat.le_refl _, Nat.le_succ _, by omega⟩, ⟨?_⟩, ⟨?_⟩, ⟨below_drew1 (below_alloc (below_alloc (Below.refl _ _) _) _)⟩⟩
            · exact blk_drew (blk_alloc (heap_alloc_new wr _) _)
            · have h := heap_alloc_new (wr.alloc (.cells (ivals (List.replicate m 0)) 3)) (.cells (bvals (List.replicate m false)) 4)
              rw [World.size_alloc] at h
              exact blk_drew h
          · refine ⟨wr.heap.size + 1, wr.heap.size, rfl, rfl, ⟨Nat.le_succ _, Nat.le_refl _, by omega⟩, ⟨?_⟩, ⟨?_⟩, ⟨below_drew1 (below_alloc (below_alloc (Below.refl _ _) _) _)⟩⟩
            · have h := heap_alloc_new (wr.alloc (.cells (bvals (List.replicate m false)) 4)) (.cells (ivals (List.replicate m 0)) 3)
              rw [World.size_alloc] at h
              exact blk_drew h
            · exact blk_drew (blk_alloc (heap_alloc_new wr _) _)
        case rest =>
          obtain ⟨bb, ob, rfl, rfl, HBO, HBB, HOB, HBX⟩ := hcut
          go_wp2_with fail
          clear x0 hmk3 hmk4
          have HKS := Aside0.mk (KeepS.of_below HBX.out (S := fun i => i < wr.heap.size) (fun i hi _ => hi))
          have HBB0 : Aside0 (wc.heap[bb]? = some (.cells (ivals ((bitsG m j).take 0 ++ List.replicate (m - 0) 0)) 3 (0, 0))) := ⟨by simpa using HBB.out⟩
          have HOB0 : Aside0 (wc.heap[ob]? = some (.cells (bvals (((bitsG m j).map (fun b => b == 1)).take 0 ++ List.replicate (m - 0) false)) 4 (0, 0))) := ⟨by simpa using HOB.out⟩
          clear HBB HOB HBX
          obtain ⟨wo, rfl⟩ : ∃ wo : World, wo = wr := ⟨_, rfl⟩
          go_loopw [32] (fun v32 wl => ∃ q : Nat, v32 = .int .i64 (q : Int) ∧ Aside0 (q ≤ m) ∧ Aside0 (KeepS (fun i => i < wo.heap.size) wo wl) ∧ Aside0 (wl.heap[bb]? = some (.cells (ivals ((bitsG m j).take q ++ List.replicate (m - q) 0)) 3 (0, 0))) ∧
            Aside0 (wl.heap[ob]? = some (.cells (bvals (((bitsG m j).map (fun b => b == 1)).take q ++ List.replicate (m - q) false)) 4 (0, 0)))) (fun v32 _ => m - (intOf v32).toNat)
          case atStart => exact ⟨0, rfl, ⟨Nat.zero_le _⟩, HKS, HBB0, HOB0⟩
          case round =>
            clear HKS HBB0 HOB0
            obtain ⟨q, rfl, HQ, HKS, HBB, HOB⟩ := hrel
            have hcl := blk_lt HCB.out
            have hbo := HBO.out
            by_cases hq : q < m
            · have x0 : wr.cell? ⟨cb, 0, none⟩ = some (.int .i64 m) := (blk_cell (HKS.out.blk HCB.out hcl) 0).trans rfl
              have hbl := bitsG_length m j
              have c0 := ivals_cell HBB.out q (by simp; omega)
              have f0 := blk_frozen HBB.out q
              have c1 := bvals_cell HOB.out q (by simp; omega)
              have f1 := blk_frozen HOB.out q
              clear hbl
              have b1 : (0 : Int) ≤ (m : Int) - 1 - q := by omega
              have hand := bit_and m j q (by omega)
              go_upto_region 10 with (fail)
              have hset1 := take_set (bitsG m j) 0 m q (bitsG_length m j) hq
              rw [bitsG_get m j q hq] at hset1
              have hset2 := take_set ((bitsG m j).map (fun b => b == 1)) false m q (by simp [bitsG_length]) hq
              rw [List.getElem_map, bitsG_get m j q hq] at hset2
              have hB1 := ivals_put HBB.out q (bitG m j q)
              rw [hset1] at hB1
              have hO1 := blk_far HOB.out (p := ⟨bb, q, none⟩) (Ne.symm hbo.2.2) (.int .i64 (bitG m j q))
              have hK1 := HKS.out.trans ((KeepS.set_ wr ⟨bb, q, none⟩ (.int .i64 (bitG m j q)) (S := fun i => i < wo.heap.size) (by have := hbo.1; show ¬ bb < wo.heap.size; omega)))
              have hq1 : rd ((bitsG m j).take (q + 1) ++ List.replicate (m - (q + 1)) 0) q = bitG m j q := by
                unfold rd
                rw [Int.toNat_natCast, List.getD_eq_getElem?_getD, List.getElem?_append_left (by rw [List.length_take, bitsG_length]; omega), List.getElem?_take_of_lt (by omega), List.getElem?_eq_getElem (by rw [bitsG_length]; exact hq), bitsG_get m j q hq]
                rfl
              have c2 := ivals_cell hB1 q (by rw [List.length_append, List.length_take, List.length_replicate, bitsG_length]; omega)
              have c2 : (wr.setCell ⟨bb, q, none⟩ (.int .i64 (bitG m j q))).cell? ⟨bb, q, none⟩ = some (.int .i64 (bitG m j q)) := c2.trans (by rw [← hq1]; simp only [rd, Int.toNat_natCast])
              have c3 := bvals_cell hO1 q (by rw [List.length_append, List.length_take, List.length_replicate, List.length_map, bitsG_length]; omega)
              have f3 := blk_frozen hO1 q
              generalize wr.setCell ⟨bb, q, none⟩ (.int .i64 (bitG m j q)) = W1 at hB1 hO1 hK1 c2 c3 f3 ⊢
              have HB1 := Aside0.mk hB1
              have HO1 := Aside0.mk hO1
              have HK1 := Aside0.mk hK1
              have HS2 := Aside0.mk hset2
              clear hB1 hO1 hK1 hset1 hset2 hq1 c0 f0 c1 f1 hand
              go_wp2
              go_roundw
              case rel => exact ⟨q + 1, by go_num, ⟨by omega⟩, ⟨HK1.out.trans ((KeepS.set_ W1 ⟨ob, q, none⟩ (.bool (bitG m j q == 1)) (S := fun i => i < wo.heap.size) (by have := hbo.2.1; show ¬ ob < wo.heap.size; omega)))⟩, ⟨blk_far HB1.out (p := ⟨ob, q, none⟩) hbo.2.2 _⟩, ⟨by have h := bvals_put HO1.out q (bitG m j q == 1); rwa [HS2.out] at h⟩⟩
              case measure => simp [intOf]; omega
            · obtain rfl : m = q := by have := HQ.out; omega
              have hb := HBB.out
              rw [Nat.sub_self, List.replicate_zero, List.append_nil, List.take_of_length_le (by rw [bitsG_length]; exact Nat.le_refl _)] at hb
              have hob := HOB.out
              rw [Nat.sub_self, List.replicate_zero, List.append_nil, List.take_of_length_le (by rw [List.length_map, bitsG_length]; exact Nat.le_refl _)] at hob
              have hbl := blk_lt HE.out.he
              have hgl := blk_lt HE.out.hg
              have hE := HE.out.keepS HKS.out hbl hgl
              have hGr : Kd.F k52 wr (fun k => k < N) A gs.length gs := Kd.F_step HGR.out (fun k (hk : k < N) hk2 => HKS.out.block k hk2 hk2)
              have hNg : N ≤ g := Nat.le_trans HNW.out Hg.out
              have hob2 := hbo
              have hbR : Kd.R (Kd.int .i64) 3 wr N (fun k => k = bb) (.slice (some ⟨bb, 0, none⟩) m m) (bitsG m j) := by
                refine Kd.R_of_own ⟨by simp [encs], .inr ⟨bb, m, ivals (bitsG m j), by rw [bitsG_length], by have := HNW.out; have := HWS.out; omega, hb, by rw [bitsG_length]; exact Nat.le_refl _, by unfold maxLen; omega, by rw [ivals_size, bitsG_length, Nat.mul_one], ?_⟩⟩ (fun k hk => by simpa [Value.ownBlock] using hk.symm)
                simp [ivals, encs, List.take_of_length_le]
              have hbF := Kd.F_mono (Kd.R_F hbR) (fun k (hk : k = bb) => (by have := hbo.1; omega : k ≠ g))
              have hbF : Kd.F (Kd.int .i64) wr (fun k => k ≠ g) (some ⟨bb, 0, none⟩) (bitsG m j).length (bitsG m j) := by rw [bitsG_length]; exact hbF
              have hout := output_any b g N hNg m n2 A c gs.length gs (some ⟨bb, 0, none⟩) m (bitsG m j) vs vs1 o1 wr hE (Kd.F_mono hGr (fun k (hk : k < N) => (by omega : k ≠ g))) hbF (by have := HVL.out; omega) HO.out
              rw [bitsG_length] at hout
              have HOB2 := Aside0.mk hob
              have HGR2 := Aside0.mk hGr
              clear hb hob hE hGr hbR hbF HBB HOB
              go_upto_region 12 with (fail)
              have hvl1 : vs1.length = gs.length := (outF_length HO.out).trans HVL.out
              have hcbg : cb ≠ g := blk_ne HCB.out HE.out.hg (by decide)
              have hgob : g ≠ ob := by have := hbo.2.1; omega
              have hbob : b ≠ ob := by have := hbo.2.1; omega
              have hcbob : cb ≠ ob := by have := hbo.2.1; omega
              have hj1 : M - (j + 1) = r1 := by have := HR1.out; omega
              by_cases ho1 : o1 = 1
              · subst ho1
                have hA3 := HA3.out
                rw [if_pos rfl] at hA3
                have hpre : pre ++ [(bitsG m j).map (fun b => b == 1)] <+: xs := ⟨l1, by rw [← HPR.out, ← hA3, List.append_assoc, List.singleton_append]⟩
                have HPRE := Aside0.mk hpre
                have HA4 := Aside0.mk hA3
                clear hA3 hpre
                refine (wpIn_wide (n := 1)).1 ?_
                refine wpIn_region_lit ?_
                gi_wp2_with (refine ⟨trivial, ?_⟩; gi_at_call 35; refine ((callsIn_wide (n := 0)).2 hout).mono ?_; rintro e w2 ⟨rfl, hE2, hK2⟩; have HE2 := Aside0.mk hE2; have HK2 := Aside0.mk hK2; have HR2 := Aside0.mk (HRR.out Y1 pre ((bitsG m j).map (fun b => b == 1)) #[.slice (some ⟨ob, 0, none⟩) m m] (fun k => k = ob) w2 HPRE.out (fun k hk => ⟨Nat.lt_of_lt_of_le (HY1.out k hk).1 (Nat.le_trans HKS.out.size hK2.keep.1), (HY1.out k hk).2.1⟩) (Nat.le_trans HWS.out (Nat.le_trans HKS.out.size hK2.keep.1)) (HJ.out _ _ _ _ HJ2.out ((HKS.out.mono (fun i hi _ => hi)).trans (hK2.keepS.mono (fun i hi h => h.elim (fun h => by have := Hg.out; omega) (fun h => (HY1.out i h).2.2.2))))) ⟨_, rfl, R_bools' (hK2.keep.blk HOB2.out (Ne.symm hgob) (by simp)) (by have := HNW.out; have := HWS.out; have := hbo.2.1; omega) (by rw [List.length_map, bitsG_length]) (by omega) rfl⟩ (fun k (hk : k = ob) => ⟨by have := HWS.out; have := hbo.2.1; omega, by have := blk_lt HOB2.out; have := hK2.keep.1; omega, fun h => by have := (HY1.out k h).1; have := hbo.2.1; omega, by have := HNW.out; have := HWS.out; have := hbo.2.1; omega⟩)); clear hE2 hK2 hout; obtain ⟨fn, tmps, assign, body, hy, hRI⟩ := HR2.out; have HRI := Aside0.mk hRI; clear hRI HR2)
                have HYX := HY1.out
                refine HRI.out.mono ?_
                rintro e w4 ⟨Y2, hy1, hy2, hk4, (⟨rfl, hJ4⟩ | ⟨rfl, hJx4⟩)⟩
                · have HE4 := Aside0.mk (HE2.out.keepS hk4 ⟨fun h => (HYX b h).2.2.1 rfl, hbob⟩ ⟨fun h => (HYX g h).2.2.2 rfl, hgob⟩)
                  have HC4 := Aside0.mk (hk4.blk (HK2.out.keep.blk (HKS.out.blk HCB.out (blk_lt HCB.out)) hcbg (by simp)) ⟨fun h => (HYX cb h).2.1 (.inl rfl), hcbob⟩)
                  have HG4 := Aside0.mk (Kd.F_step (Kd.F_step HGR2.out (fun k (hk : k < N) _ => HK2.out.bel.block k hk)) (fun k (hk : k < N) hk2 => hk4.block k hk2 ⟨fun h => (HYX k h).2.1 (.inr hk), by have := HNW.out; have := HWS.out; have := hbo.2.1; omega⟩))
                  have HY4 : Aside0 (∀ k, Y2 k → k < w4.heap.size ∧ ¬ (k = cb ∨ k < N) ∧ k ≠ b ∧ k ≠ g) := ⟨fun k hk => ⟨hy2 k hk, by
                    have s2 := HK2.out.keep.1
                    have s1 := HKS.out.size
                    have q1 := blk_lt HCB.out
                    have q2 := HNW.out
                    have q3 := HWS.out
                    have q4 := hbo.2.1
                    rcases hy1 k hk with h | rfl | h
                    · exact (HYX k h).2
                    · exact ⟨fun h => h.elim (fun h => by omega) (fun h => by omega), by omega, by omega⟩
                    · exact ⟨fun h => h.elim (fun h => by omega) (fun h => by omega), by omega, by omega⟩⟩⟩
                  have HW4 := Aside0.mk (Nat.le_trans HWS.out (Nat.le_trans HKS.out.size (Nat.le_trans HK2.out.keep.1 hk4.size)))
                  have HJ4 := Aside0.mk hJ4
                  clear hy1 hy2 hk4 hJ4 HYX
                  gi_wp2
                  go_wp2
                  go_roundw
                  case rel => exact ⟨j + 1, vs1, _, l1, Y2, by go_num, ⟨by omega, hvl1⟩, ⟨by rw [hj1]; exact HL1.out, by rw [← HPR.out, ← HA4.out, List.append_assoc, List.singleton_append]⟩, HE4, HJ4, HY4, HC4, HG4, HW4⟩
                  case measure => simp [intOf]; omega
                · have HJX4 := Aside0.mk hJx4
                  have HW4 := Aside0.mk (Nat.le_trans HWS.out (Nat.le_trans HKS.out.size (Nat.le_trans HK2.out.keep.1 hk4.size)))
                  clear hy1 hy2 hk4 hJx4 HYX
                  gi_wp2
                  go_wp2
                  refine bodyPost_ret (results_none rfl _ _ _) rfl ?_
                  exact ⟨⟨_, rfl⟩, HW4.out, Y2, .inr ⟨_, HPRE.out, HJX4.out⟩⟩
              · have ho1b : (o1 == 1) = false := by simp [ho1]
                have hA3 := HA3.out
                rw [if_neg ho1] at hA3
                subst hA3
                go_wp2_with (go_at_call 35; refine hout.mono ?_; rintro e w2 ⟨rfl, hE2, hK2⟩; have HE2 := Aside0.mk hE2; have HK2 := Aside0.mk hK2; clear hE2 hK2 hout)
                have HE4 := HE2
                have HY4 : Aside0 (∀ k, Y1 k → k < w2.heap.size ∧ ¬ (k = cb ∨ k < N) ∧ k ≠ b ∧ k ≠ g) := ⟨fun k hk => ⟨Nat.lt_of_lt_of_le (HY1.out k hk).1 (Nat.le_trans HKS.out.size HK2.out.keep.1), (HY1.out k hk).2⟩⟩
                have HC4 := Aside0.mk (HK2.out.keep.blk (HKS.out.blk HCB.out (blk_lt HCB.out)) hcbg (by simp))
                have HG4 := Aside0.mk (Kd.F_step HGR2.out (fun k (hk : k < N) _ => HK2.out.bel.block k hk))
                have HW4 := Aside0.mk (Nat.le_trans HWS.out (Nat.le_trans HKS.out.size HK2.out.keep.1))
                have HJ4 := Aside0.mk (HJ.out _ _ _ _ HJ2.out ((HKS.out.mono (fun i hi _ => hi)).trans (HK2.out.keepS.mono (fun i hi h => h.elim (fun h => by have := Hg.out; omega) (fun h => (HY1.out i h).2.2.2)))))
                go_roundw
                case rel => exact ⟨j + 1, vs1, pre, l1, Y1, by go_num, ⟨by omega, hvl1⟩, ⟨by rw [hj1]; exact HL1.out, HPR.out⟩, HE4, HJ4, HY4, HC4, HG4, HW4⟩
                case measure => simp [intOf]; omega
set_option maxHeartbeats 8000000 in
set_option maxRecDepth 100000 in
theorem All_any (n0 : Int) (A : Option Addr) (c : Nat) (gs : List S52) (n2 : Int) (w : World) :
    Calls Try.prog 26 #[.agg #[.int .i64 n0, .slice A gs.length c, .int .i64 n2]] w fun e w' => ∃ cb, e = .returned (.func (.func 41) #[] #[.pointer (some ⟨cb, 0, none⟩)]) ∧ w.heap.size ≤ cb ∧ w'.heap[cb]? = some (.cells #[.int .i64 n0, .slice A gs.length c, .int .i64 n2] 24 (0, 0)) ∧ Below w.heap.size w w' := by
  have hu24 := Try.underlying24
  have hmf : ∀ (fn : Fn) (first cap : Array Value) (w : World), (Instr.makeFunc fn first cap).run Try.prog w = .ok (.func fn first cap) w := fun _ _ _ _ => rfl
  go_enter Try.func26, Try.ntmps26
  go_wp2
  go_ret
  exact ⟨_, rfl, Nat.le_refl _, heap_alloc_new _ _, below_alloc (Below.refl _ _) _⟩
def sat_Count.f (k : Nat) (a0_0 : Int) (l0_1 : List (S52)) (a0_2 : Int) : Option (Int × Int) :=
  (sat_Check.f k a0_0 l0_1 a0_2).bind fun t => if t = true then (if a0_0 > 16 then some (0, 2) else (sat_All.seq k a0_0 l0_1 a0_2).bind fun xs => if xs.length ≤ 1000000 then some ((xs.length : Int), 0) else none) else some (0, 1)
theorem sat_Count.mono (a0_0 : Int) (l0_1 : List (S52)) (a0_2 : Int) (k : Nat) : LeO (sat_Count.f k a0_0 l0_1 a0_2) (sat_Count.f (k + 1) a0_0 l0_1 a0_2) :=
  LeO.bind (sat_Check.mono _ _ _ _) (fun t => LeO.ite (LeO.ite (LeO.refl _) (LeO.bind (sat_All.mono _ _ _ _) (fun xs => LeO.refl _))) (LeO.refl _))
set_option maxHeartbeats 8000000 in
set_option maxRecDepth 100000 in
theorem sat_Count.calls (k : Nat) (a0_0 : Int) (A0_1 : Option Addr) (c0_1 : Nat) (l0_1 : List (S52)) (a0_2 : Int) (r1 : Int) (r2 : Int) (w : World) (hr0_1 : Kd.C k52 w A0_1 l0_1.length l0_1) (hc0_1 : l0_1.length ≤ c0_1) (h : sat_Count.f k a0_0 l0_1 a0_2 = some (r1, r2)) :
    Calls Try.prog 25 #[.agg #[.int .i64 a0_0, .slice A0_1 l0_1.length c0_1, .int .i64 a0_2]] w fun e w' => e = .returned (.tuple #[.int .i64 r1, .int .i64 r2]) ∧ Below w.heap.size w w' := by
  obtain ⟨t, ht, h2⟩ := Option.bind_eq_some_iff.1 h
  clear h
  have hp := fun (W : World) (hW : Below w.heap.size w W) => sat_Check.calls k a0_0 A0_1 c0_1 l0_1 a0_2 t W (Kd.C_below hr0_1 hW) hc0_1 ht
  have hu24 := Try.underlying24
  have HG := Aside0.mk (Kd.C_F heap52 hr0_1)
  have HC := Aside0.mk hc0_1
  clear ht hr0_1 hc0_1
  cases t with
  | false =>
    rw [if_neg (by decide)] at h2
    injection h2 with h2
    injection h2 with e1 e2
    subst e1 e2
    refine calls_of_wp_marks Try.func25 rfl ?_
    simp only [Try.ntmps25, List.size_toArray, List.length_cons, List.length_nil, Nat.reduceAdd, Nat.reduceSub, Array.replicate_succ, Array.replicate_zero, List.push_toArray, List.append_toArray, List.nil_append, List.cons_append]
    go_wp2_with (go_at_call 17; refine (hp _ (below_alloc (Below.refl _ _) _)).mono ?_; rintro e w1 ⟨rfl, hb1⟩; have HB1 := Aside0.mk hb1; clear hb1 hp)
    refine leavesM_nil (v := .tuple #[.int .i64 0, .int .i64 1]) (by simp [results, Try.results25, go_sem]) ⟨rfl, ?_⟩
    exact (below_alloc (Below.refl _ _) _).trans (HB1.out.mono (by simp))
  | true =>
    rw [if_pos rfl] at h2
    by_cases h16 : a0_0 > 16
    · rw [if_pos h16] at h2
      injection h2 with h2
      injection h2 with e1 e2
      subst e1 e2
      refine calls_of_wp_marks Try.func25 rfl ?_
      simp only [Try.ntmps25, List.size_toArray, List.length_cons, List.length_nil, Nat.reduceAdd, Nat.reduceSub, Array.replicate_succ, Array.replicate_zero, List.push_toArray, List.append_toArray, List.nil_append, List.cons_append]
      go_wp2_with (go_at_call 17; refine (hp _ (below_alloc (Below.refl _ _) _)).mono ?_; rintro e w1 ⟨rfl, hb1⟩; have HB1 := Aside0.mk hb1; have y0 : w1.cell? ⟨w.heap.size, 0, none⟩ = some (.int .i64 a0_0) := (hb1.cell (p := ⟨w.heap.size, 0, none⟩) (by simp)).trans (World.cell?_alloc_at _ _ _ _ (by simp)); clear hb1 hp)
      refine leavesM_nil (v := .tuple #[.int .i64 0, .int .i64 2]) (by simp [results, Try.results25, go_sem]) ⟨rfl, ?_⟩
      exact (below_alloc (Below.refl _ _) _).trans (HB1.out.mono (by simp))
    · rw [if_neg h16] at h2
      obtain ⟨xs, hxs, h3⟩ := Option.bind_eq_some_iff.1 h2
      by_cases hlx : xs.length ≤ 1000000
      case neg => rw [if_neg hlx] at h3; cases h3
      rw [if_pos hlx] at h3
      injection h3 with h3
      injection h3 with e1 e2
      subst e1 e2
      clear h2
      have HX := Aside0.mk hxs
      have HLX := Aside0.mk hlx
      clear hxs hlx
      refine calls_of_wp_marks Try.func25 rfl ?_
      simp only [Try.ntmps25, List.size_toArray, List.length_cons, List.length_nil, Nat.reduceAdd, Nat.reduceSub, Array.replicate_succ, Array.replicate_zero, List.push_toArray, List.append_toArray, List.nil_append, List.cons_append]
      go_wp2_with (first | (go_at_call 17; refine (hp _ (below_alloc (Below.refl _ _) _)).mono ?_; rintro e w1 ⟨rfl, hb1⟩; have HB1 := Aside0.mk ((below_alloc (Below.refl w.heap.size w) (.cells #[.int .i64 a0_0, .slice A0_1 l0_1.length c0_1, .int .i64 a0_2] 24)).trans (hb1.mono (by simp))); have hcz := blk_below (heap_alloc_new w (.cells #[.int .i64 a0_0, .slice A0_1 l0_1.length c0_1, .int .i64 a0_2] 24)) hb1; have HCZ := Aside0.mk hcz; have y0 : w1.cell? ⟨w.heap.size, 0, none⟩ = some (.int .i64 a0_0) := (blk_cell hcz 0).trans rfl; have y1 : (w1.alloc (.cells #[.int .i64 0] 3)).cell? ⟨w.heap.size, 0, none⟩ = some (.int .i64 a0_0) := (blk_cell (blk_alloc hcz _) 0).trans rfl; have y2 : (w1.alloc (.cells #[.int .i64 0] 3)).cell? ⟨w.heap.size, 1, none⟩ = some (.slice A0_1 l0_1.length c0_1) := (blk_cell (blk_alloc hcz _) 1).trans rfl;  have y3 : (w1.alloc (.cells #[.int .i64 0] 3)).cell? ⟨w.heap.size, 2, none⟩ = some (.int .i64 a0_2) := (blk_cell (blk_alloc hcz _) 2).trans rfl; clear hb1 hp hcz) | (go_at_call 26; refine (All_any a0_0 A0_1 c0_1 l0_1 a0_2 _).mono ?_; rintro e w2 ⟨cb, rfl, hcb, hcc, hb2⟩; have HB2 := Aside0.mk ((below_alloc HB1.out (.cells #[.int .i64 0] 3)).trans (hb2.mono (by have := HB1.out.size; simp; omega))); have HCC := Aside0.mk hcc; have HNB := Aside0.mk (blk_below (heap_alloc_new w1 (.cells #[.int .i64 0] 3)) hb2); have HCB := Aside0.mk hcb; have HS1 := Aside0.mk HB1.out.size; clear hb2 hcc hcb y0 y1 y2 y3))
      have hnN : w.heap.size ≤ w1.heap.size := HS1.out
      have hncb : w1.heap.size ≠ cb := by have h := HCB.out; simp at h; omega
      have hn2 : w1.heap.size < w2.heap.size := blk_lt HNB.out
      have hcb2 : cb < w2.heap.size := blk_lt HCC.out
      have hN2 : w.heap.size ≤ w2.heap.size := HB2.out.size
      refine wp_rangeFunc_iter1 (gf := 41) (lb := #[.pointer (some ⟨cb, 0, none⟩)]) (Rel := relB w.heap.size) (Z := fun k => k = cb ∨ k < w.heap.size) (w0 := w2) (xs := xs) rfl (enters_of Try.func41 (by kernel_rfl) rfl)
        (all1_iter k cb w.heap.size a0_0 a0_2 A0_1 c0_1 l0_1 w2 HCC.out (Kd.F_below HG.out HB2.out) HC.out HB2.out.size xs HX.out) (Below.refl _ _) (relB_put _)
        (fun Y pre W => Y w1.heap.size ∧ W.heap[w1.heap.size]? = some (.cells #[.int .i64 (pre.length : Int)] 3 (0, 0)) ∧ Below w.heap.size w W) (fun _ _ _ _ => False) ?hI (fun _ _ _ _ _ h _ => h)
        (fun k => k = w1.heap.size) ?Y0 ?hZ ⟨rfl, HNB.out, HB2.out⟩ ?asg ?assign ?body ?done (fun _ _ _ _ _ _ _ h _ => h.elim)
      case assign =>
        intro l v A K hK
        gi_wp2
        exact hK
      case hI =>
        rintro Y pre A B ⟨hy, hn, hb⟩ hk
        exact ⟨hy, hk.blk hn (.inr hy), hb.trans (hk.below hb.size (fun i hi => .inl (Nat.lt_of_lt_of_le hi hN2)))⟩
      case Y0 => rintro k rfl; exact ⟨hn2, fun h => h.elim hncb (fun h => absurd h (by omega))⟩
      case hZ => exact fun k hk h => h.elim (fun h => by omega) (fun h => by omega)
      case body =>
        rintro l m Y pre x v S A hpre ⟨hy, hn, hb⟩ hrel hl hlm hm hY hS
        refine wpIn_block ?_
        refine wpIn_region_of (r := some l) (by rintro a w ⟨Y', h1, h2, h3, h⟩; exact h) (by simp) ?_
        have x0 : A.cell? ⟨w1.heap.size, 0, none⟩ = some (.int .i64 pre.length) := (blk_cell hn 0).trans rfl
        have f0 := blk_frozen hn 0
        have hpl := hpre.length_le
        rw [List.length_append, List.length_singleton] at hpl
        have hpl2 : pre.length ≤ 1000000 := by have := HLX.out; omega
        have HP := Aside0.mk hpre
        have HN := Aside0.mk hn
        have HB := Aside0.mk hb
        clear hpl hpre hn hb
        go_wp2
        refine ⟨Y, fun k hk => .inl hk, fun k hk => by have := (hY k hk).1; simp [World.setCell]; omega, KeepS.set_ _ _ _ (fun h => h.2.1 hy), hy, ?_, HB.out.setCell (p := ⟨w1.heap.size, 0, none⟩) hnN _⟩
        rw [List.length_append, List.length_singleton]
        exact blk_put HN.out 0 _ rfl
      case done =>
        rintro D Y W hD ⟨hy, hn, hb⟩ hK
        have x0 : W.cell? ⟨w1.heap.size, 0, none⟩ = some (.int .i64 xs.length) := (blk_cell hn 0).trans rfl
        have HB := Aside0.mk hb
        have HK := Aside0.mk hK
        clear hb hK hn
        go_wp2
        refine leavesM_mark HK.out (leavesM_nil (v := .tuple #[.int .i64 xs.length, .int .i64 0]) (by simp [results, Try.results25, go_sem]) ⟨rfl, HB.out.trans (KeepS.below (KeepS.putObj (S := fun i => i < w.heap.size) _ _ _ (by show ¬ D < w.heap.size; omega)) HB.out.size (fun _ h => h))⟩)
/-- The world behind what has been called so far, the circuit in its box. -/
structure AtC (w W : World) (n0 : Int) (A : Option Addr) (c : Nat) (gs : List S52) (n2 : Int) : Prop where
  bel : Below w.heap.size w W
  box : W.heap[w.heap.size]? = some (.cells #[.int .i64 n0, .slice A gs.length c, .int .i64 n2] 24 (0, 0))
theorem AtC.new (w : World) (n0 : Int) (A : Option Addr) (c : Nat) (gs : List S52) (n2 : Int) : AtC w (w.alloc (.cells #[.int .i64 n0, .slice A gs.length c, .int .i64 n2] 24)) n0 A c gs n2 := ⟨below_alloc (Below.refl _ _) _, heap_alloc_new _ _⟩
section
variable {w W W1 : World} {n0 : Int} {A : Option Addr} {c : Nat} {gs : List S52} {n2 : Int}
theorem AtC.step (h : AtC w W n0 A c gs n2) (hb : Below W.heap.size W W1) : AtC w W1 n0 A c gs n2 := ⟨h.bel.trans (hb.mono h.bel.size), blk_below h.box hb⟩
theorem AtC.alloc (h : AtC w W n0 A c gs n2) (o : Obj) : AtC w (W.alloc o) n0 A c gs n2 := h.step (below_alloc (Below.refl _ _) o)
theorem AtC.c0 (h : AtC w W n0 A c gs n2) : W.cell? ⟨w.heap.size, 0, none⟩ = some (.int .i64 n0) := (blk_cell h.box 0).trans rfl
theorem AtC.c1 (h : AtC w W n0 A c gs n2) : W.cell? ⟨w.heap.size, 1, none⟩ = some (.slice A gs.length c) := (blk_cell h.box 1).trans rfl
theorem AtC.c2 (h : AtC w W n0 A c gs n2) : W.cell? ⟨w.heap.size, 2, none⟩ = some (.int .i64 n2) := (blk_cell h.box 2).trans rfl
end
theorem AtC.keep {w W W1 : World} {n0 : Int} {A : Option Addr} {c : Nat} {gs : List S52} {n2 : Int} {T : Nat → Prop} (h : AtC w W n0 A c gs n2) (hk : KeepS T W W1) (hT : ∀ i, i ≤ w.heap.size → T i) : AtC w W1 n0 A c gs n2 :=
  ⟨h.bel.trans (hk.below h.bel.size (fun i hi => hT i (Nat.le_of_lt hi))), hk.blk h.box (hT _ (Nat.le_refl _))⟩
theorem below_putObj {B : Nat} {w W : World} (h : Below B w W) {D : Nat} (hD : B ≤ D) (o : Obj) : Below B w (W.putObj D o) := ⟨h.os, h.tape, h.output, by rw [World.putObj_size]; exact h.size, fun k hk => (World.putObj_heap_other (by omega)).trans (h.block k hk)⟩
/-- What has been collected: a box of rows of bools. -/
def GotI (w : World) (gb : Nat) (n0 : Int) (A : Option Addr) (c : Nat) (gs : List S52) (n2 : Int) (Y : Nat → Prop) (pre : List (List Bool)) (W : World) : Prop :=
  Y gb ∧ (∃ v, W.heap[gb]? = some (.cells #[v] 43 (0, 0)) ∧ Kd.R (Kd.slice 4 Kd.bool) 25 W w.heap.size Y v pre) ∧ AtC w W n0 A c gs n2
theorem GotI.keep {w W W1 : World} {gb B : Nat} {n0 : Int} {A : Option Addr} {c : Nat} {gs : List S52} {n2 : Int} {Y : Nat → Prop} {pre : List (List Bool)} (h : GotI w gb n0 A c gs n2 Y pre W) (hB : w.heap.size < B) (hk : KeepS (fun i => i < B ∨ Y i) W W1) : GotI w gb n0 A c gs n2 Y pre W1 := by
  obtain ⟨h1, ⟨v, h2, h3⟩, h4⟩ := h
  exact ⟨h1, ⟨v, hk.blk h2 (.inr h1), Kd.R_step h3 (fun k hy hlt => hk.block k hlt (.inr hy))⟩, h4.keep hk (fun i hi => .inl (by omega))⟩
/-- A row has been appended and put back into its box. -/
theorem GotI.put {w W w1 : World} {gb m : Nat} {n0 : Int} {A : Option Addr} {c : Nat} {gs : List S52} {n2 : Int} {Y S : Nat → Prop} {pre pre1 : List (List Bool)} {v v1 : Value} {Ix : Code → (Nat → Prop) → List (List Bool) → World → Prop} {a : Act}
    (h1 : Y gb) (h2 : W.heap[gb]? = some (.cells #[v] 43 (0, 0))) (h3 : Kd.R (Kd.slice 4 Kd.bool) 25 W w.heap.size Y v pre) (h4 : AtC w W n0 A c gs n2)
    (hg : W.grownBy w1 v.ownBlock) (hr : Kd.R (Kd.slice 4 Kd.bool) 25 w1 w.heap.size (fun k => Y k ∨ S k ∨ m ≤ k) v1 pre1) (hw : w.heap.size < m) (hm : m ≤ W.heap.size) (hY : ∀ k, Y k → w.heap.size < k) (hS : ∀ k, S k → w.heap.size < k) :
    roundPostI m Y S (GotI w gb n0 A c gs n2) Ix pre1 W .normal a (w1.setCell ⟨gb, 0, none⟩ v1) := by
  have hv : ∀ k, v.ownBlock = some k → Y k := h3.1
  have hgb : w1.heap[gb]? = some (.cells #[v] 43 (0, 0)) := blk_grown h2 hg (Kd.R_ne h3 h2 (by decide))
  have hk : KeepS (fun i => i < m ∧ ¬ Y i ∧ ¬ S i) W (w1.setCell ⟨gb, 0, none⟩ v1) :=
    KeepS.trans ⟨hg.os, hg.tape, hg.output, hg.size, fun i hi hs => hg.block i hi (fun e => hs.2.1 (hv i e.symm))⟩ (KeepS.set_ _ _ _ (fun hs => hs.2.1 h1))
  have hr2 := Kd.R_set hr hgb (by intro q hq; simp [Kd.slice, Kd.bool, Kd.scalar] at hq; omega) 0 v1
  refine ⟨fun k => (Y k ∨ S k ∨ m ≤ k) ∧ k < (w1.setCell ⟨gb, 0, none⟩ v1).heap.size, fun k h => h.1, fun k h => h.2, hk, ⟨.inl h1, blk_lt (blk_put hgb 0 v1 rfl)⟩, ⟨v1, blk_put hgb 0 v1 rfl, ?_⟩, h4.keep hk (fun i hi => ⟨by omega, fun h => by have := hY i h; omega, fun h => by have := hS i h; omega⟩)⟩
  exact Kd.R_mono (Kd.R_bound hr2) (fun k hk => ⟨hk.1, hk.2.2.1⟩)
theorem keepS_at {T : Nat → Prop} {w0 W : World} (h : KeepS T w0 W) {b t : Nat} {v : Value} (hb : w0.heap[b]? = some (.cells #[v] t (0, 0))) (hT : T b) : W.cell? ⟨b, 0, none⟩ = some v := (blk_cell (h.blk hb hT) 0).trans rfl

/-! ### pentaglotlaw28_example: function 29 -/
def pentaglotlaw28_example.f  : Option (Int × (List (S52)) × Int) := some (2, (([(⟨3, 0, ([] : List Int)⟩ : S52), (⟨3, 1, ([] : List Int)⟩ : S52), (⟨4, 0, (([0] : List Int))⟩ : S52), (⟨6, 0, (([2, 1] : List Int))⟩ : S52)] : List (S52))), 3)
set_option maxHeartbeats 8000000 in
set_option maxRecDepth 100000 in
theorem pentaglotlaw28_example.calls  (r1 : Int) (r2 : List (S52)) (r3 : Int) (w : World) (h : pentaglotlaw28_example.f  = some (r1, r2, r3)) :
    Calls Try.prog 29 #[] w fun e w' => ∃ v1_ : Value, e = .returned (.agg #[.int .i64 r1, v1_, .int .i64 r3]) ∧ Kd.N k52 52 w' w.heap.size (fun k_ => (w.heap.size ≤ k_)) v1_ r2 ∧ Below w.heap.size w w' := by
  have hu24 := Try.underlying24
  have hu52 := Try.underlying52
  have HB := Aside0.mk (Below.refl w.heap.size w)
  have H : (some (2, (([(⟨3, 0, ([] : List Int)⟩ : S52), (⟨3, 1, ([] : List Int)⟩ : S52), (⟨4, 0, (([0] : List Int))⟩ : S52), (⟨6, 0, (([2, 1] : List Int))⟩ : S52)] : List (S52))), 3)) = some (r1, r2, r3) := h
  clear h
  obtain ⟨y127, hy127⟩ : ∃ y_ : List Int, y_ = (([0] : List Int)) := ⟨_, rfl⟩
  replace H : (some (2, (([(⟨3, 0, ([] : List Int)⟩ : S52), (⟨3, 1, ([] : List Int)⟩ : S52), (⟨4, 0, y127⟩ : S52), (⟨6, 0, (([2, 1] : List Int))⟩ : S52)] : List (S52))), 3)) = some (r1, r2, r3) := by first | (rw [hy127]; with_reducible exact H) | (have H2_ := (Option.bind_some _ _).symm.trans H; rw [hy127]; with_reducible exact H2_) | (have H2_ := (Option.bind_some _ _).symm.trans H; with_reducible exact H2_) | with_reducible exact H | (rw [hy127]; exact H) | exact H
  have Ny127 := Aside0.mk hy127
  clear hy127
  obtain ⟨y130, hy130⟩ : ∃ y_ : List Int, y_ = (([2, 1] : List Int)) := ⟨_, rfl⟩
  replace H : (some (2, (([(⟨3, 0, ([] : List Int)⟩ : S52), (⟨3, 1, ([] : List Int)⟩ : S52), (⟨4, 0, y127⟩ : S52), (⟨6, 0, y130⟩ : S52)] : List (S52))), 3)) = some (r1, r2, r3) := by first | (rw [hy130]; with_reducible exact H) | (have H2_ := (Option.bind_some _ _).symm.trans H; rw [hy130]; with_reducible exact H2_) | (have H2_ := (Option.bind_some _ _).symm.trans H; with_reducible exact H2_) | with_reducible exact H | (rw [hy130]; exact H) | exact H
  have Ny130 := Aside0.mk hy130
  clear hy130
  obtain ⟨y133, hy133⟩ : ∃ y_ : List (S52), y_ = (([(⟨3, 0, ([] : List Int)⟩ : S52), (⟨3, 1, ([] : List Int)⟩ : S52), (⟨4, 0, y127⟩ : S52), (⟨6, 0, y130⟩ : S52)] : List (S52))) := ⟨_, rfl⟩
  replace H : (some (2, y133, 3)) = some (r1, r2, r3) := by first | (rw [hy133]; with_reducible exact H) | (have H2_ := (Option.bind_some _ _).symm.trans H; rw [hy133]; with_reducible exact H2_) | (have H2_ := (Option.bind_some _ _).symm.trans H; with_reducible exact H2_) | with_reducible exact H | (rw [hy133]; exact H) | exact H
  have Ny133 := Aside0.mk hy133
  clear hy133
  simp only [Option.some.injEq, Prod.mk.injEq] at H
  obtain ⟨rfl, rfl, rfl⟩ := H
  go_enter Try.func29, Try.ntmps29
  go_wp2_with (first | ((with_reducible refine gate_dst (N := 0) rfl ?_); refine box_event ?hg (N := 0) ?hd (cs := #[.int .i64 0, .slice none 0 0, .int .i64 0]) (t := 24) ?hr ?_; (case hd => rfl); (case hg => rfl); (case hr => first | (go_simp; done) | (go_simp; rfl)); intro gb126 hg w1 hbox hb; have n0_ := Aside0.mk (below_step (by repeat (first | (with_reducible first | exact HB.out | apply below_alloc | apply pw_below_drewN | apply below_drew1) | exact HB.out)) hb); have n1_ := Aside0.mk (hbox); have n2_ := Aside0.mk ((by rw [hg]; exact (below_size (by repeat (first | (with_reducible first | exact HB.out | apply below_alloc | apply pw_below_drewN | apply below_drew1) | exact HB.out))) : w.heap.size ≤ gb126)); have n3_ := Aside0.mk ((by rw [hg]; exact (below_size (by repeat (first | (with_reducible first | exact HB.out | apply below_alloc | apply pw_below_drewN | apply below_drew1) | exact HB.out))) : w.heap.size ≤ gb126)); clear HB; have HB := n0_; have BK126 := n1_; have GW126 := n2_; have GE126 := n3_; clear n0_ n1_ n2_ n3_; clear hb hbox hg) | ((with_reducible refine gate_dst (N := 3) rfl ?_); refine Kd.R_lit (Kd.int .i64) _ 3 ?hg (N := 3) ?hd (xs := ([0] : List Int)) (inner := [.int .i64 0]) (ok := fun _ => True) (okp := fun _ => True) ?hr ?hp (fun _ hk => hk) trivial (Below.refl _ _) (Nat.le_refl _) (by simp) ?_; (case hd => rfl); (case hg => rfl); (case hr => first | (go_simp; done) | (go_simp; rfl)); (case hp => exact (Reps.one (show Kd.M (Kd.int .i64) _ _ _ 0 [.int .i64 0] from rfl) (Reps.none _ _))); intro v128 w2 ho3 hb hg_ hnew_; clear hg_ hnew_; (first | rw [← Ny127.out] at ho3 | (simp only [Int.reduceToNat] at ho3; rw [← Ny127.out] at ho3)); have n0_ := Aside0.mk (Kd.R_lower (Kd.R_newM (M := fun k_ => (w.heap.size ≤ k_)) ho3 (below_size (by repeat (first | (with_reducible first | exact HB.out | apply below_alloc | apply pw_below_drewN | apply below_drew1 | refine below_set ?_ GE126.out) | exact HB.out))) (fun k_ h_ => h_)) (below_size (by repeat (first | (with_reducible first | exact HB.out | apply below_alloc | apply pw_below_drewN | apply below_drew1 | refine below_set ?_ GE126.out) | exact HB.out)))); have n1_ := Aside0.mk (blk_below (g := gb126) (o := .cells #[.int .i64 0, .slice none 0 0, .int .i64 0] 24 (0, 0)) (by (with_reducible repeat (first | refine blk_drewN ?_ _ | refine blk_drew ?_ | refine blk_alloc ?_ _)); exact BK126.out) hb); have n2_ := Aside0.mk (below_step (by repeat (first | (with_reducible first | exact HB.out | apply below_alloc | apply pw_below_drewN | apply below_drew1 | refine below_set ?_ GE126.out) | exact HB.out)) hb); clear BK126; clear HB; have HO129 := n0_; have BK126 := n1_; have HB := n2_; clear n0_ n1_ n2_; clear hb ho3; obtain ⟨Ao4, co4, eo4⟩ := Kd.R_slice HO129.out; subst eo4) | ((with_reducible refine gate_dst (N := 5) rfl ?_); refine Kd.R_lit (Kd.int .i64) _ 3 ?hg (N := 5) ?hd (xs := ([2, 1] : List Int)) (inner := [.int .i64 2, .int .i64 1]) (ok := fun _ => True) (okp := fun _ => True) ?hr ?hp (fun _ hk => hk) trivial (Below.refl _ _) (Nat.le_refl _) (by simp) ?_; (case hd => rfl); (case hg => rfl); (case hr => first | (go_simp; done) | (go_simp; rfl)); (case hp => exact (Reps.one (show Kd.M (Kd.int .i64) _ _ _ 2 [.int .i64 2] from rfl) (Reps.one (show Kd.M (Kd.int .i64) _ _ _ 1 [.int .i64 1] from rfl) (Reps.none _ _)))); intro v131 w5 ho6 hb hg_ hnew_; clear hg_ hnew_; (first | rw [← Ny130.out] at ho6 | (simp only [Int.reduceToNat] at ho6; rw [← Ny130.out] at ho6)); have n0_ := Aside0.mk (Kd.R_elder' (by (with_reducible repeat (first | apply Kd.R_alloc | apply Kd.R_drewN | apply Kd.R_drew)); exact HO129.out) (Kd.R_base ho6) hb); have n1_ := Aside0.mk (Kd.R_lower (Kd.R_new' (Kd.R_newM (M := fun k_ => (w.heap.size ≤ k_)) ho6 (below_size (by repeat (first | (with_reducible first | exact HB.out | apply below_alloc | apply pw_below_drewN | apply below_drew1 | refine below_set ?_ GE126.out) | exact HB.out))) (fun k_ h_ => h_)) (Kd.R_lt (by (with_reducible repeat (first | apply Kd.R_alloc | apply Kd.R_drewN | apply Kd.R_drew)); exact HO129.out))) (below_size (by repeat (first | (with_reducible first | exact HB.out | apply below_alloc | apply pw_below_drewN | apply below_drew1 | refine below_set ?_ GE126.out) | exact HB.out)))); have n2_ := Aside0.mk (blk_below (g := gb126) (o := .cells #[.int .i64 0, .slice none 0 0, .int .i64 0] 24 (0, 0)) (by (with_reducible repeat (first | refine blk_drewN ?_ _ | refine blk_drew ?_ | refine blk_alloc ?_ _)); exact BK126.out) hb); have n3_ := Aside0.mk (below_step (by repeat (first | (with_reducible first | exact HB.out | apply below_alloc | apply pw_below_drewN | apply below_drew1 | refine below_set ?_ GE126.out) | exact HB.out)) hb); clear HO129; clear BK126; clear HB; have HO129 := n0_; have HO132 := n1_; have BK126 := n2_; have HB := n3_; clear n0_ n1_ n2_ n3_; clear hb ho6; obtain ⟨Ao7, co7, eo7⟩ := Kd.R_slice HO132.out; subst eo7) | ((with_reducible refine gate_dst (N := 7) rfl ?_); refine Kd.N_lit k52 _ 52 ?hg (N' := 7) ?hd (xs := ([(⟨3, 0, ([] : List Int)⟩ : S52), (⟨3, 1, ([] : List Int)⟩ : S52), (⟨4, 0, y127⟩ : S52), (⟨6, 0, y130⟩ : S52)] : List (S52))) (inner := [.int .i64 3, .int .i64 0, .slice none 0 0, .int .i64 3, .int .i64 1, .slice none 0 0, .int .i64 4, .int .i64 0, .slice Ao4 y127.length co4, .int .i64 6, .int .i64 0, .slice Ao7 y130.length co7]) (ok := (fun k_ => (w.heap.size ≤ k_) ∧ k_ ≠ gb126)) (okp := (fun k_ => (w.heap.size ≤ k_) ∧ k_ ≠ gb126)) ?hr ?hp (fun _ hk => hk) ((show ∀ k_, w5.heap.size ≤ k_ → (fun k_ => (w.heap.size ≤ k_) ∧ k_ ≠ gb126) k_ from fun k_ hk => ⟨(Nat.le_trans (below_size (by repeat (first | (with_reducible first | exact HB.out | apply below_alloc | apply pw_below_drewN | apply below_drew1 | refine below_set ?_ GE126.out) | exact HB.out))) hk), Kd.freshB (g := gb126) (o := .cells #[.int .i64 0, .slice none 0 0, .int .i64 0] 24 (0, 0)) (by (with_reducible repeat (first | refine blk_drewN ?_ _ | refine blk_drew ?_ | refine blk_alloc ?_ _)); exact BK126.out) k_ hk⟩) _ (Nat.le_refl _)) (Below.refl _ _) (Nat.le_refl _) (by simp) ?_; (case hd => rfl); (case hg => rfl); (case hr => first | (go_simp; done) | (go_simp; rfl)); (case hp => exact (Reps.c3 (show Kd.FK k52 _ _ (⟨3, 0, ([] : List Int)⟩ : S52) [.int .i64 3, .int .i64 0, .slice none 0 0] from (k52_mkF _ _ (⟨3, 0, ([] : List Int)⟩ : S52) (Nat.le_refl _) (Kd.F_nil _ _ _))) (Reps.c3 (show Kd.FK k52 _ _ (⟨3, 1, ([] : List Int)⟩ : S52) [.int .i64 3, .int .i64 1, .slice none 0 0] from (k52_mkF _ _ (⟨3, 1, ([] : List Int)⟩ : S52) (Nat.le_refl _) (Kd.F_nil _ _ _))) (Reps.c3 (show Kd.FK k52 _ _ (⟨4, 0, y127⟩ : S52) [.int .i64 4, .int .i64 0, .slice Ao4 y127.length co4] from (k52_mkF _ _ (⟨4, 0, y127⟩ : S52) (Kd.R_reads' (Kd.R_mono (ok' := (fun k_ => (w.heap.size ≤ k_) ∧ k_ ≠ gb126)) (Kd.R_types (HO129.out) BK126.out (by decide)) (fun k_ hk => ⟨hk.1.1.1, hk.2⟩))).2.1 (Kd.R_F (Kd.R_mono (ok' := (fun k_ => (w.heap.size ≤ k_) ∧ k_ ≠ gb126)) (Kd.R_types (HO129.out) BK126.out (by decide)) (fun k_ hk => ⟨hk.1.1.1, hk.2⟩))))) (Reps.c3 (show Kd.FK k52 _ _ (⟨6, 0, y130⟩ : S52) [.int .i64 6, .int .i64 0, .slice Ao7 y130.length co7] from (k52_mkF _ _ (⟨6, 0, y130⟩ : S52) (Kd.R_reads' (Kd.R_mono (ok' := (fun k_ => (w.heap.size ≤ k_) ∧ k_ ≠ gb126)) (Kd.R_types (HO132.out) BK126.out (by decide)) (fun k_ hk => ⟨hk.1.1.1, hk.2⟩))).2.1 (Kd.R_F (Kd.R_mono (ok' := (fun k_ => (w.heap.size ≤ k_) ∧ k_ ≠ gb126)) (Kd.R_types (HO132.out) BK126.out (by decide)) (fun k_ hk => ⟨hk.1.1.1, hk.2⟩))))) (Reps.none _ _)))))); intro v134 w8 ho9 hb hg_ hnew_; clear hg_ hnew_; (first | rw [← Ny133.out] at ho9 | (simp only [Int.reduceToNat] at ho9; rw [← Ny133.out] at ho9)); have n0_ := Aside0.mk (Kd.N_lower ho9 (below_size (by repeat (first | (with_reducible first | exact HB.out | apply below_alloc | apply pw_below_drewN | apply below_drew1 | refine below_set ?_ GE126.out) | exact HB.out)))); have n1_ := Aside0.mk (blk_below (g := gb126) (o := .cells #[.int .i64 0, .slice none 0 0, .int .i64 0] 24 (0, 0)) (by (with_reducible repeat (first | refine blk_drewN ?_ _ | refine blk_drew ?_ | refine blk_alloc ?_ _)); exact BK126.out) hb); have n2_ := Aside0.mk (below_step (by repeat (first | (with_reducible first | exact HB.out | apply below_alloc | apply pw_below_drewN | apply below_drew1 | refine below_set ?_ GE126.out) | exact HB.out)) hb); clear BK126; clear HB; clear HO129; clear HO132; have HO135 := n0_; have BK126 := n1_; have HB := n2_; clear n0_ n1_ n2_; clear hb ho9; obtain ⟨Ao10, co10, eo10⟩ := Kd.N_slice HO135.out; subst eo10; have hcz11_0 : w8.cell? ⟨gb126, 0, none⟩ = some (.int .i64 0) := (blk_cell BK126.out 0).trans rfl; have hcz11_1 : w8.cell? ⟨gb126, 1, none⟩ = some (.slice none 0 0) := (blk_cell BK126.out 1).trans rfl; have hcz11_2 : w8.cell? ⟨gb126, 2, none⟩ = some (.int .i64 0) := (blk_cell BK126.out 2).trans rfl; have hfz11_0 := blk_frozen BK126.out 0; have hfz11_1 := blk_frozen BK126.out 1; have hfz11_2 := blk_frozen BK126.out 2))
  refine bodyPost_ret (results_cell_row rfl _ _ gb126 24 #[.int .i64 2, .slice Ao10 y133.length co10, .int .i64 3] (0, 0) _ rfl (by (with_reducible repeat (first | refine blk_drewN ?_ _ | refine blk_drew ?_ | refine blk_alloc ?_ _)); refine blk_put (cs := #[.int .i64 2, .slice Ao10 y133.length co10, .int .i64 0]) ?_ 2 _ rfl; (with_reducible repeat (first | refine blk_drewN ?_ _ | refine blk_drew ?_ | refine blk_alloc ?_ _)); refine blk_put (cs := #[.int .i64 2, .slice none 0 0, .int .i64 0]) ?_ 1 _ rfl; (with_reducible repeat (first | refine blk_drewN ?_ _ | refine blk_drew ?_ | refine blk_alloc ?_ _)); refine blk_put (cs := #[.int .i64 0, .slice none 0 0, .int .i64 0]) ?_ 0 _ rfl; (with_reducible repeat (first | refine blk_drewN ?_ _ | refine blk_drew ?_ | refine blk_alloc ?_ _)); exact BK126.out) Try.underlying24 rfl (by kernel_rfl)) rfl ?_
  exact ⟨_, by first | rfl | (simp [errW_none, errW_some] <;> rfl) | (simp [*, errW_none, errW_some] <;> rfl), by (with_reducible repeat (first | apply Kd.N_alloc | apply Kd.N_drewN | apply Kd.N_drew)); exact Kd.N_mono (Kd.N_far (p := ⟨gb126, 2, none⟩) (Kd.N_far (p := ⟨gb126, 1, none⟩) (Kd.N_far (p := ⟨gb126, 0, none⟩) (Kd.N_mono HO135.out (fun k_ hk => (⟨hk, hk.2⟩ : _ ∧ k_ ≠ gb126))) (fun _ hk => hk.2) (.int .i64 2)) (fun _ hk => hk.2) (.slice Ao10 y133.length co10)) (fun _ hk => hk.2) (.int .i64 3)) (fun _ hk => hk.1.1), by repeat (first | (with_reducible first | exact HB.out | apply below_alloc | apply pw_below_drewN | apply below_drew1 | refine below_set ?_ GE126.out) | exact HB.out)⟩

end Go.Proofs.Ytflknolnclnhfaa.P
