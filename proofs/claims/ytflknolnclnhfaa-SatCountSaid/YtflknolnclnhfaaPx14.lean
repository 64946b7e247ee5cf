-- Written by the session's own program wip/tools/xprint.py out of the translation, with the kit's print.py on a scratch copy; functions given by hand stand among them.
import Derived.Test.YtflknolnclnhfaaPx0
import Derived.Test.YtflknolnclnhfaaPx2
import Derived.Test.YtflknolnclnhfaaPx4
import Derived.Test.YtflknolnclnhfaaPx5
import Derived.Test.YtflknolnclnhfaaPx7
import Derived.Test.YtflknolnclnhfaaPx9
namespace Go.Proofs.Ytflknolnclnhfaa.P
open Go.RowKit Go.Proofs.YtflknolnclnhfaaW.PrintWords Go.Proofs.YtflknolnclnhfaaW.PrintLast Go.Proofs.YtflknolnclnhfaaW.PrintMore
attribute [local go_sem] max2_int min2_int max_two min_two max_three min_three max_four min_four   -- for this text's walks alone
set_option linter.unusedVariables false
set_option linter.unusedSimpArgs false

/-! ### pentaglotlaw28_SatCount: function 6, by hand -/
-- leans on 25 13 14 16 27 24
def pentaglotlaw28_SatCount.f (k : Nat) (a0_0 : Int) (l0_1 : List (S52)) (a0_2 : Int) : Option Bool :=
  if pentaglotlaw28_awake.f k = some true then (pentaglotref28_Large.f k a0_0 l0_1 a0_2 60).bind fun b => if b = true then some true else if 8 < a0_0 ∧ a0_0 ≤ 16 then some true else
    (pentaglotref27_Valid.f k a0_0 l0_1 a0_2).bind fun v => (sat_Count.f k a0_0 l0_1 a0_2).bind fun ne => (sat_All.seq k a0_0 l0_1 a0_2).bind fun xs => if xs.length ≤ 1000000 then
      (if v = false then (if ne = (0, 1) ∧ xs = [] then some true else none)
      else if 16 < a0_0 then (if ne = (0, 2) ∧ xs = [] then some true else none)
      else (pentaglotref28_All.f k a0_0 l0_1 a0_2).bind fun want => if ne = ((want.length : Int), 0) ∧ xs = want ∧ want.all (fun x => decide (pentaglotlaw28_same.f k x x = some true)) = true then some true else none)
      else none
  else none
set_option maxHeartbeats 16000000 in
set_option maxRecDepth 100000 in
theorem pentaglotlaw28_SatCount.calls (k : Nat) (a0_0 : Int) (A0_1 : Option Addr) (c0_1 : Nat) (l0_1 : List (S52)) (a0_2 : Int) (r : Bool) (w : World) (hr0_1 : Kd.C k52 w A0_1 l0_1.length l0_1) (hc0_1 : l0_1.length ≤ c0_1) (h : pentaglotlaw28_SatCount.f k a0_0 l0_1 a0_2 = some r) :
    Calls Try.prog 6 #[.agg #[.int .i64 a0_0, .slice A0_1 l0_1.length c0_1, .int .i64 a0_2]] w fun e w' => e = .returned (.bool r) ∧ Below w.heap.size w w' := by
  unfold pentaglotlaw28_SatCount.f at h
  by_cases haw : pentaglotlaw28_awake.f k = some true
  case neg => rw [if_neg haw] at h; cases h
  rw [if_pos haw] at h
  obtain ⟨b, hlg, h2⟩ := Option.bind_eq_some_iff.1 h
  clear h
  have hu24 := Try.underlying24
  have HG := Aside0.mk (Kd.C_F heap52 hr0_1)
  have HX0 := Aside0.mk (AtC.new w a0_0 A0_1 c0_1 l0_1 a0_2)
  have a13 := fun (W : World) => pentaglotlaw28_awake.calls k true W haw
  have a14 := fun (W : World) (hW : AtC w W a0_0 A0_1 c0_1 l0_1 a0_2) => pentaglotref28_Large.calls k a0_0 A0_1 c0_1 l0_1 a0_2 60 b W (Kd.C_below hr0_1 hW.bel) hc0_1 hlg
  have HC := Aside0.mk hc0_1
  clear haw hlg hc0_1 hr0_1
  by_cases hb : b = true
  · rw [if_pos hb] at h2
    subst hb
    obtain rfl := Option.some.inj h2
    clear h2
    refine calls_of_wp_marks Try.func6 rfl ?_
    simp only [Try.ntmps6, List.size_toArray, List.length_cons, List.length_nil, Nat.reduceAdd, Nat.reduceSub, Array.replicate_succ, Array.replicate_zero, List.push_toArray, List.append_toArray, List.nil_append, List.cons_append]
    go_wp2_with (first | (go_at_call 13; refine (a13 _).mono ?_; rintro e w1 ⟨rfl, hb1⟩; have HX1 := Aside0.mk (HX0.out.step hb1); have y0 := HX1.out.c0; have y1 := HX1.out.c1; have y2 := HX1.out.c2; clear hb1 a13) | (go_at_call 14; refine (a14 _ HX1.out).mono ?_; rintro e w2 ⟨rfl, hb2⟩; have HX2 := Aside0.mk (HX1.out.step hb2); clear hb2 a14 y0 y1 y2))
    refine leavesM_nil (v := .bool true) (by simp [results, Try.results6, go_sem]) ⟨rfl, HX2.out.bel⟩
  obtain rfl : b = false := by simpa using hb
  rw [if_neg hb] at h2
  clear hb
  by_cases hn : 8 < a0_0 ∧ a0_0 ≤ 16
  · rw [if_pos hn] at h2
    obtain rfl := Option.some.inj h2
    obtain ⟨hn1, hn2⟩ := hn
    clear h2
    refine calls_of_wp_marks Try.func6 rfl ?_
    simp only [Try.ntmps6, List.size_toArray, List.length_cons, List.length_nil, Nat.reduceAdd, Nat.reduceSub, Array.replicate_succ, Array.replicate_zero, List.push_toArray, List.append_toArray, List.nil_append, List.cons_append]
    go_wp2_with (first | (go_at_call 13; refine (a13 _).mono ?_; rintro e w1 ⟨rfl, hb1⟩; have HX1 := Aside0.mk (HX0.out.step hb1); have y0 := HX1.out.c0; have y1 := HX1.out.c1; have y2 := HX1.out.c2; clear hb1 a13) | (go_at_call 14; refine (a14 _ HX1.out).mono ?_; rintro e w2 ⟨rfl, hb2⟩; have HX2 := Aside0.mk (HX1.out.step hb2); clear hb2 a14 y0 y1 y2; have y0 := HX2.out.c0))
    refine leavesM_nil (v := .bool true) (by simp [results, Try.results6, go_sem]) ⟨rfl, HX2.out.bel⟩
  rw [if_neg hn] at h2
  obtain ⟨v, hv, h3⟩ := Option.bind_eq_some_iff.1 h2
  obtain ⟨⟨n, e⟩, hcn, h4⟩ := Option.bind_eq_some_iff.1 h3
  obtain ⟨xs, hxs, h5⟩ := Option.bind_eq_some_iff.1 h4
  by_cases hlx : xs.length ≤ 1000000
  case neg => rw [if_neg hlx] at h5; cases h5
  rw [if_pos hlx] at h5
  clear h2 h3 h4
  have a25 := fun (W : World) (hW : AtC w W a0_0 A0_1 c0_1 l0_1 a0_2) => sat_Count.calls k a0_0 A0_1 c0_1 l0_1 a0_2 n e W (Kd.F_now (Kd.F_below HG.out hW.bel)) HC.out hcn
  have a16 := fun (W : World) (hW : AtC w W a0_0 A0_1 c0_1 l0_1 a0_2) => pentaglotref27_Valid.calls k a0_0 A0_1 c0_1 l0_1 a0_2 v W (Kd.F_now (Kd.F_below HG.out hW.bel)) HC.out hv
  have HXS := Aside0.mk hxs
  have HLX := Aside0.mk hlx
  have HN := Aside0.mk hn
  have H5 := Aside0.mk h5
  clear hv hcn hxs hlx h5 hn
  have hn8 : a0_0 ≤ 8 ∨ 16 < a0_0 := by have := HN.out; omega
  refine calls_of_wp_marks Try.func6 rfl ?_
  simp only [Try.ntmps6, List.size_toArray, List.length_cons, List.length_nil, Nat.reduceAdd, Nat.reduceSub, Array.replicate_succ, Array.replicate_zero, List.push_toArray, List.append_toArray, List.nil_append, List.cons_append]
  go_upto_region 3 with (go_at_call 13; refine (a13 _).mono ?_; rintro e' w1 ⟨rfl, hb1⟩; have HX1 := Aside0.mk (HX0.out.step hb1); have y0 := HX1.out.c0; have y1 := HX1.out.c1; have y2 := HX1.out.c2; clear hb1 a13)
  go_cut [22] from 11 to 22 (fun v22 wx => v22 = .bool false ∧ Aside0 (AtC w wx a0_0 A0_1 c0_1 l0_1 a0_2))
  case first =>
    rcases hn8 with hn8 | hn8
    all_goals go_wp2_with (go_at_call 14; refine (a14 _ HX1.out).mono ?_; rintro e' w2 ⟨rfl, hb2⟩; have HX2 := Aside0.mk (HX1.out.step hb2); clear hb2 a14 y0 y1 y2; have y0 := HX2.out.c0)
    all_goals go_meet
    · exact ⟨rfl, HX2⟩
    · exact ⟨by have h : ¬ a0_0 ≤ 16 := by omega
                simp [h], HX2⟩
  obtain ⟨rfl, HX2⟩ := hcut
  clear HX1 y0 y1 y2
  have y0 := HX2.out.c0
  have y1 := HX2.out.c1
  have y2 := HX2.out.c2
  go_wp2_with (first | (go_at_call 25; refine (a25 _ HX2.out).mono ?_; rintro e' w3 ⟨rfl, hb3⟩; have HX3 := Aside0.mk (HX2.out.step hb3); clear hb3 a25 y0 y1 y2; have hz := HX3.out.alloc (.cells #[.slice none 0 0] 43); have y0 := hz.c0; have y1 := hz.c1; have y2 := hz.c2; clear hz) | (go_at_call 26; refine (All_any a0_0 A0_1 c0_1 l0_1 a0_2 _).mono ?_; rintro e' w4 ⟨cb, rfl, hcb, hcc, hb4⟩; have HX4 := Aside0.mk ((HX3.out.alloc (.cells #[.slice none 0 0] 43)).step hb4); have HCC := Aside0.mk hcc; have HNB := Aside0.mk (blk_below (heap_alloc_new w3 (.cells #[.slice none 0 0] 43)) hb4); have HCB := Aside0.mk hcb; clear hb4 hcc hcb y0 y1 y2))
  have hw3 : w.heap.size < w3.heap.size := blk_lt HX3.out.box
  have hcb : w3.heap.size < cb := by have h := HCB.out; simp at h; omega
  have hw4 : w3.heap.size < w4.heap.size := blk_lt HNB.out
  refine wp_rangeFunc_iter1 (gf := 41) (lb := #[.pointer (some ⟨cb, 0, none⟩)]) (Rel := relB (w.heap.size + 1)) (Z := fun k => k = cb ∨ k < w.heap.size + 1) (w0 := w4) (xs := xs) rfl (enters_of Try.func41 (by kernel_rfl) rfl)
    (all1_iter k cb (w.heap.size + 1) a0_0 a0_2 A0_1 c0_1 l0_1 w4 HCC.out (Kd.F_mono (Kd.F_below HG.out HX4.out.bel) (fun k hk => Nat.lt_succ_of_lt hk)) HC.out (by omega) xs HXS.out) (Below.refl _ _) (relB_put _)
    (GotI w w3.heap.size a0_0 A0_1 c0_1 l0_1 a0_2) (fun _ _ _ _ => False) (fun _ _ _ _ h hk => h.keep (by omega) hk) (fun _ _ _ _ _ h _ => h)
    (fun k => k = w3.heap.size) ?Y0 ?hZ ⟨rfl, ⟨_, HNB.out, Kd.R_nil _ _ _ _ _⟩, HX4.out⟩ ?asg ?assign ?body ?done (fun _ _ _ _ _ _ _ h _ => h.elim)
  case assign =>
    intro l v A K hK
    refine wpIn_region_of (r := some l) (by intro a w h; exact h) (by simp) ?_
    go_wp2
    exact hK
  case Y0 => rintro k rfl; exact ⟨hw4, fun h => h.elim (fun h => by omega) (fun h => by omega)⟩
  case hZ => exact fun k hk h => h.elim (fun h => by have := blk_lt HCC.out; omega) (fun h => by omega)
  case body =>
    rintro l m Y pre x vx S A hpre ⟨hy, ⟨vg, hgb, hR⟩, hX⟩ hrel hl hlm hm hY hS
    refine wpIn_block ?_
    refine wpIn_region_of (r := some l) (by rintro a w ⟨Y', h1, h2, h3, h⟩; exact h) (by simp) ?_
    have x0 : A.cell? ⟨w3.heap.size, 0, none⟩ = some vg := (blk_cell hgb 0).trans rfl
    have f0 := blk_frozen hgb 0
    have hpl := hpre.length_le
    rw [List.length_append, List.length_singleton] at hpl
    have hpl2 : pre.length ≤ 1000000 := by have := HLX.out; omega
    have HP := Aside0.mk hpre
    have HGB := Aside0.mk hgb
    have HR := Aside0.mk hR
    have HX := Aside0.mk hX
    have HREL := Aside0.mk (show Kd.R Kd.bool 4 A (w.heap.size + 1) S vx x from hrel)
    obtain ⟨Av, cv, rfl, _, _⟩ := Kd.R_reads hrel
    clear hpl hpre hgb hR hX hrel
    go_wp2_with ((with_reducible refine gate_builtin (b := .append) (xs := #[.tmp 31, .tmp 33]) rfl ?_); at_builtin; refine Kd.R_append (Kd.slice 4 Kd.bool) (w0 := w) w.heap.size rfl (.tmp 31) (.tmp 33) 43 25 (.slice none 0 0) 24 rfl Try.underlying43 info25 rfl (by decide) (by omega) vg pre x [.slice Av x.length cv] (fun k => Y k ∨ S k ∨ m ≤ k) S rfl rfl (Kd.M_row (Kd.R_lower HREL.out (Nat.le_succ _))) (fun k hk => ⟨.inr (.inl hk), fun e => (hS k hk).2.2.1 (HR.out.1 k e.symm)⟩) (fun k hk => .inr (.inr (by omega))) (Kd.R_mono HR.out (fun k hk => .inl hk)) HX.out.bel HX.out.bel.size (by omega) ?_; intro v1 w1 ho hb hg hat; obtain ⟨Aw, cw, rfl, _, _⟩ := Kd.R_reads ho; rw [List.length_append, List.length_singleton] at ho; have HO1 := Aside0.mk ho; have HG1 := Aside0.mk hg; have f1 := blk_frozen (blk_grown HGB.out hg (Kd.R_ne HR.out HGB.out (by decide))) 0; have x1 : w1.cell? ⟨w3.heap.size, 0, none⟩ = some vg := (blk_cell (blk_grown HGB.out hg (Kd.R_ne HR.out HGB.out (by decide))) 0).trans rfl; clear ho hb hg hat)
    exact GotI.put hy HGB.out HR.out HX.out HG1.out HO1.out (by omega) hm (fun k hk => by have := (hY k hk).2.1; omega) (fun k hk => by have := (hS k hk).2.2.2.1; omega)
  case done =>
    rintro D Y W hD ⟨hy, ⟨vg, hgb, hR⟩, hX⟩ hK
    have x0 : W.cell? ⟨w3.heap.size, 0, none⟩ = some vg := (blk_cell hgb 0).trans rfl
    have HGB := Aside0.mk hgb
    have HR := Aside0.mk hR
    have HX := Aside0.mk hX
    have HK := Aside0.mk hK
    have y0 := hX.c0
    have y1 := hX.c1
    have y2 := hX.c2
    clear hgb hR hX hK
    obtain ⟨Ag, cg, rfl, _, _⟩ := Kd.R_reads HR.out
    have h5 := H5.out
    clear H5
    go_upto_region 10 with (fail)
    have fin : ∀ W1 : World, Below W.heap.size W W1 → AtC w W1 a0_0 A0_1 c0_1 l0_1 a0_2 ∧ W1.heap[D]? = some (.deferred (some [])) := fun W1 hb => ⟨HX.out.step hb, blk_below HK.out hb⟩
    cases v with
    | false =>
      rw [if_pos rfl] at h5
      by_cases hq : (n, e) = (0, 1) ∧ xs = []
      case neg => rw [if_neg hq] at h5; cases h5
      rw [if_pos hq] at h5
      obtain rfl := Option.some.inj h5
      obtain ⟨hq, rfl⟩ := hq
      injection hq with q1 q2
      subst q1 q2
      clear h5
      go_wp2_with (go_at_call 16; refine (a16 _ HX.out).mono ?_; rintro e' w5 ⟨rfl, hb5⟩; have HF := Aside0.mk (fin _ hb5); have HX5 := Aside0.mk (HF.out.1); have x1 : w5.cell? ⟨w3.heap.size, 0, none⟩ = _ := (blk_cell (blk_below HGB.out hb5) 0).trans rfl; clear hb5 a16 y0 y1 y2 x0)
      exact leavesM_mark HF.out.2 (leavesM_nil (v := .bool true) (by simp [results, Try.results6, go_sem]) ⟨rfl, below_putObj HX5.out.bel (by omega) _⟩)
    | true =>
      rw [if_neg (by decide)] at h5
      by_cases hn16 : 16 < a0_0
      · rw [if_pos hn16] at h5
        by_cases hq : (n, e) = (0, 2) ∧ xs = []
        case neg => rw [if_neg hq] at h5; cases h5
        rw [if_pos hq] at h5
        obtain rfl := Option.some.inj h5
        obtain ⟨hq, rfl⟩ := hq
        injection hq with q1 q2
        subst q1 q2
        clear h5
        go_wp2_with (go_at_call 16; refine (a16 _ HX.out).mono ?_; rintro e' w5 ⟨rfl, hb5⟩; have HF := Aside0.mk (fin _ hb5); have HX5 := Aside0.mk (HF.out.1); have z0 := HX5.out.c0; have x1 : w5.cell? ⟨w3.heap.size, 0, none⟩ = _ := (blk_cell (blk_below HGB.out hb5) 0).trans rfl; clear hb5 a16 y0 y1 y2 x0)
        exact leavesM_mark HF.out.2 (leavesM_nil (v := .bool true) (by simp [results, Try.results6, go_sem]) ⟨rfl, below_putObj HX5.out.bel (by omega) _⟩)
      rw [if_neg hn16] at h5
      obtain ⟨want, hwant, h6⟩ := Option.bind_eq_some_iff.1 h5
      by_cases hq : (n, e) = ((want.length : Int), 0) ∧ xs = want ∧ want.all (fun x => decide (pentaglotlaw28_same.f k x x = some true)) = true
      case neg => rw [if_neg hq] at h6; cases h6
      rw [if_pos hq] at h6
      obtain rfl := Option.some.inj h6
      obtain ⟨hq, rfl, hsame⟩ := hq
      injection hq with q1 q2
      subst q1 q2
      clear h5 h6
      have a27 := fun (W : World) (hW : AtC w W a0_0 A0_1 c0_1 l0_1 a0_2) => pentaglotref28_All.calls k a0_0 A0_1 c0_1 l0_1 a0_2 xs W (Kd.F_now (Kd.F_below HG.out hW.bel)) HC.out hwant
      have HS := Aside0.mk (fun x hx => of_decide_eq_true (List.all_eq_true.1 hsame x hx))
      clear hwant hsame
      go_wp2_with (first | (go_at_call 16; refine (a16 _ HX.out).mono ?_; rintro e' w5 ⟨rfl, hb5⟩; have HF := Aside0.mk (fin _ hb5); have HX5 := Aside0.mk (HF.out.1); have HGB5 := Aside0.mk (blk_below HGB.out hb5); have HR5 := Aside0.mk (Kd.R_below HR.out hb5); have z0 := HX5.out.c0; have z1 := HX5.out.c1; have z2 := HX5.out.c2; clear hb5 a16 y0 y1 y2 x0) | (go_at_call 27; refine (a27 _ HX5.out).mono ?_; rintro e' w6 ⟨vw, rfl, hw6, hb6⟩; obtain ⟨Aw, cw, rfl, hcw, hCw⟩ := Kd.S_reads hw6; have HX6 := Aside0.mk (HX5.out.step hb6); have HD6 := Aside0.mk (blk_below HF.out.2 hb6); have HGB6 := Aside0.mk (blk_below HGB5.out hb6); have HR6 := Aside0.mk (Kd.R_below HR5.out hb6); have HW6 := Aside0.mk hCw; have x6 : w6.cell? ⟨w3.heap.size, 0, none⟩ = some (.slice Ag xs.length cg) := (blk_cell HGB6.out 0).trans rfl; clear hb6 hw6 hCw z0 z1 z2 a27))
      have hxl := HLX.out
      go_loopw [82] (fun v82 wr => ∃ q : Nat, q ≤ xs.length ∧ v82 = .int .i64 (q : Int) ∧ Aside0 (Drawn0 w6 wr)) (fun v82 _ => xs.length - (intOf v82).toNat)
      case atStart => exact ⟨0, Nat.zero_le _, rfl, ⟨Drawn0.refl _⟩⟩
      case round =>
        obtain ⟨q, hq, rfl, HDR⟩ := hrel
        have x7 : wr.cell? ⟨w3.heap.size, 0, none⟩ = some (.slice Ag xs.length cg) := by obtain ⟨⟨nd, rfl⟩⟩ := HDR.out; exact x6
        have HR7 : Aside0 (Kd.R (Kd.slice 4 Kd.bool) 25 wr w.heap.size Y (.slice Ag xs.length cg) xs) := by obtain ⟨⟨nd, rfl⟩⟩ := HDR.out; exact ⟨Kd.R_drewN HR6.out nd⟩
        have HW7 : Aside0 (Kd.C (Kd.slice 4 Kd.bool) wr Aw xs.length xs) := by obtain ⟨⟨nd, rfl⟩⟩ := HDR.out; exact ⟨Kd.C_below HW6.out (pw_below_drewN (Below.refl _ _) nd)⟩
        have HD7 : Aside0 (wr.heap[D]? = some (.deferred (some []))) := by obtain ⟨⟨nd, rfl⟩⟩ := HDR.out; exact HD6
        have HB7 : Aside0 (Below w.heap.size w wr) := by obtain ⟨⟨nd, rfl⟩⟩ := HDR.out; exact ⟨pw_below_drewN HX6.out.bel nd⟩
        by_cases hqt : q < xs.length
        · have hq0 : (q : Int) < (xs.length : Int) := by omega
          obtain ⟨_, _, hCg⟩ := Kd.R_reads' HR7.out
          obtain ⟨ad1, A1, c1, rfl, hx1, hc1, hC1⟩ := at_L6 hCg (q : Int) (by omega) (by omega)
          obtain ⟨ad2, A2, c2, rfl, hx2, hc2, hC2⟩ := at_L6 HW7.out (q : Int) (by omega) (by omega)
          have hsm := HS.out (rd_L6 xs q) (by
            unfold rd_L6
            rw [Int.toNat_natCast, List.getD_eq_getElem?_getD, List.getElem?_eq_getElem hqt]
            exact List.getElem_mem _)
          have a24 := fun m => pentaglotlaw28_same.calls k A1 c1 (rd_L6 xs q) A2 c2 (rd_L6 xs q) true (wr.drewN m) (Kd.C_below hC1 (pw_below_drewN (Below.refl _ _) m)) hc1 (Kd.C_below hC2 (pw_below_drewN (Below.refl _ _) m)) hc2 hsm
          simp only [Int.toNat_natCast] at hx1 hx2
          clear hCg hC1 hC2 hsm
          go_upto_region 20 with (fail)
          go_quiet ((go_at_call 24; exact Calls.quiet_of ((a24 _).mono (fun e w' ⟨he, hd⟩ => ⟨he, hd.out⟩))))
          go_wp2
          go_roundw
          case rel => exact ⟨q + 1, by omega, by go_num, ⟨HDR.out.step _⟩⟩
          case measure => simp [intOf]; omega
        · have hqe : ¬ (q : Int) < (xs.length : Int) := by omega
          go_wp2
          exact leavesM_mark HD7.out (leavesM_nil (v := .bool true) (by simp [results, Try.results6, go_sem]) ⟨rfl, below_putObj HB7.out (by omega) _⟩)

/-- THE ONE PURE STATEMENT of pentaglotlaw28_SatCount. -/
def pentaglotlaw28_SatCount.Pure : Prop := ∀ (p0 : S24), wf24 p0 → ∃ k, pentaglotlaw28_SatCount.f k p0.f0 p0.f1 p0.f2 = some true

end Go.Proofs.Ytflknolnclnhfaa.P
