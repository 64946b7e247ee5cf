-- Written by the session's own program wip/tools/xprint.py out of the translation, with the kit's print.py on a scratch copy; functions given by hand stand among them.
import Derived.Test.YtfampmajmbediaaPx0
import Derived.Test.YtfampmajmbediaaPx10
namespace Go.Proofs.Ytfampmajmbediaa.P
open Go.RowKit Go.Proofs.YtfampmajmbediaaW.PrintWords Go.Proofs.YtfampmajmbediaaW.PrintLast Go.Proofs.YtfampmajmbediaaW.PrintMore
attribute [local go_sem] max2_int min2_int max_two min_two max_three min_three max_four min_four   -- for this text's walks alone
set_option linter.unusedVariables false
set_option linter.unusedSimpArgs false

/-! ### abstract_replace: function 60, by hand -/
-- leans on 65
def replG : List Int → S27 → S27 → Option (S27 × Bool)
  | [], _, u => some (u, true)
  | i :: p, t, u => if i < 0 ∨ (t.f2.length : Int) ≤ i then some (z27, false) else (replG p (rd_T27 t.f2 i) u).bind fun r => if r.2 = true then (if t.f2.length < 2199023255552 then some (⟨t.f0, t.f1, t.f2.set i.toNat r.1⟩, true) else none) else some (z27, false)
def abstract_replace.f (a0_0 : ByteArray) (l0_1 : List Int) (l0_2 : List S27) (l1 : List Int) (a2_0 : ByteArray) (l2_1 : List Int) (l2_2 : List S27) : Option (ByteArray × List Int × (List S27) × Bool) := (replG l1 ⟨a0_0, l0_1, l0_2⟩ ⟨a2_0, l2_1, l2_2⟩).bind fun r => some (r.1.f0, r.1.f1, r.1.f2, r.2)
/-- A tree that was handed back, with a Bool beside it: it leads to what P tells, and to what is new. -/
def RepPost (P : Nat → Prop) (W : World) (r : S27 × Bool) (e : Ending) (w' : World) : Prop :=
  ∃ E1 e1 E2 e2, e = .returned (.tuple #[.agg #[.string r.1.f0, .slice E1 r.1.f1.length e1, .slice E2 r.1.f2.length e2], .bool r.2]) ∧ r.1.f1.length ≤ e1 ∧ Kd.F (Kd.int .i64) w' (fun k => P k ∨ W.heap.size ≤ k) E1 r.1.f1.length r.1.f1 ∧
    r.1.f2.length ≤ e2 ∧ Kd.F k27 w' (fun k => P k ∨ W.heap.size ≤ k) E2 r.1.f2.length r.1.f2 ∧ Below W.heap.size W w'
set_option maxHeartbeats 16000000 in
set_option maxRecDepth 100000 in
theorem repl_any : ∀ (l1 : List Int) (t u : S27) (r : S27 × Bool) (P : Nat → Prop) (W : World) (A1 : Option Addr) (c1 : Nat) (A2 : Option Addr) (c2 : Nat) (A : Option Addr) (c : Nat) (B1 : Option Addr) (d1 : Nat) (B2 : Option Addr) (d2 : Nat), replG l1 t u = some r →
    Kd.F (Kd.int .i64) W P A1 t.f1.length t.f1 → t.f1.length ≤ c1 → Kd.F k27 W P A2 t.f2.length t.f2 → t.f2.length ≤ c2 → Kd.C (Kd.int .i64) W A l1.length l1 → l1.length ≤ c → Kd.F (Kd.int .i64) W P B1 u.f1.length u.f1 → u.f1.length ≤ d1 → Kd.F k27 W P B2 u.f2.length u.f2 → u.f2.length ≤ d2 →
    Calls Try.prog 60 #[.agg #[.string t.f0, .slice A1 t.f1.length c1, .slice A2 t.f2.length c2], .slice A l1.length c, .agg #[.string u.f0, .slice B1 u.f1.length d1, .slice B2 u.f2.length d2]] W (RepPost P W r) := by
  intro l1
  induction l1 with
  | nil =>
    intro t u r P W A1 c1 A2 c2 A c B1 d1 B2 d2 h h1 hc1 h2 hc2 hC hc g1 gd1 g2 gd2
    rw [replG] at h
    obtain rfl := Option.some.inj h
    have hu27 := Try.underlying27
    have G1 := Aside0.mk g1
    have G2 := Aside0.mk g2
    have D1 := Aside0.mk gd1
    have D2 := Aside0.mk gd2
    clear h h1 h2 hC g1 g2 hc1 hc2 hc gd1 gd2
    show Calls Try.prog 60 #[.agg #[.string t.f0, .slice A1 t.f1.length c1, .slice A2 t.f2.length c2], .slice A 0 c, .agg #[.string u.f0, .slice B1 u.f1.length d1, .slice B2 u.f2.length d2]] W _
    go_enter Try.func60, Try.ntmps60
    go_wp2
    have hB := below_alloc (below_alloc (below_alloc (Below.refl W.heap.size W) (.cells #[.string t.f0, .slice A1 t.f1.length c1, .slice A2 t.f2.length c2] 27)) (.cells #[.string u.f0, .slice B1 u.f1.length d1, .slice B2 u.f2.length d2] 27)) (.cells #[.string u.f0, .slice B1 u.f1.length d1, .slice B2 u.f2.length d2] 27)
    exact bodyPost_ret (v := .tuple #[.agg #[.string u.f0, .slice B1 u.f1.length d1, .slice B2 u.f2.length d2], .bool true]) (by simp [results, Try.results60, go_sem]) rfl ⟨B1, d1, B2, d2, rfl, D1.out, Kd.F_mono (Kd.F_below G1.out hB) (fun _ h => .inl h), D2.out, Kd.F_mono (Kd.F_below G2.out hB) (fun _ h => .inl h), hB⟩
  | cons i p ih =>
    intro t u r P W A1 c1 A2 c2 A c B1 d1 B2 d2 h h1 hc1 h2 hc2 hC hc g1 gd1 g2 gd2
    have hu27 := Try.underlying27
    obtain ⟨ad, rfl, _⟩ := hC.2.2 (Nat.succ_pos _)
    have x0 : W.cell? (ad.add 0) = some (.int .i64 i) := Kd.foot_int hC 0 (Int.le_refl 0) (by simp)
    have hB := below_alloc (below_alloc (below_alloc (Below.refl W.heap.size W) (.cells #[.string t.f0, .slice A1 t.f1.length c1, .slice A2 t.f2.length c2] 27)) (.cells #[.string u.f0, .slice B1 u.f1.length d1, .slice B2 u.f2.length d2] 27)) (.cells #[.string ⟨#[]⟩, .slice none 0 0, .slice none 0 0] 27)
    have hbl := World.block_lt_of_cell? _ _ x0
    have x1 := (hB.cell hbl).trans x0
    rw [show ad.add 0 = ad from by cases ad; rfl] at x1
    rw [replG] at h
    by_cases hbad : i < 0 ∨ (t.f2.length : Int) ≤ i
    · rw [if_pos hbad] at h
      obtain rfl := Option.some.inj h
      have HB := Aside0.mk hB
      clear h h1 h2 hC g1 g2 hc1 hc2 hc gd1 gd2 ih hB
      have fin : RepPost P W (z27, false) (.returned (.tuple #[.agg #[.string z27.f0, .slice none 0 0, .slice none 0 0], .bool false])) (((W.alloc (.cells #[.string t.f0, .slice A1 t.f1.length c1, .slice A2 t.f2.length c2] 27)).alloc (.cells #[.string u.f0, .slice B1 u.f1.length d1, .slice B2 u.f2.length d2] 27)).alloc (.cells #[.string ⟨#[]⟩, .slice none 0 0, .slice none 0 0] 27)) :=
        ⟨none, 0, none, 0, rfl, Nat.le_refl _, Kd.F_nil _ _ _, Nat.le_refl _, Kd.F_nil _ _ _, HB.out⟩
      have FIN := Aside0.mk fin
      clear fin
      have hlen : (0 : Int) < (p.length : Int) + 1 := by omega
      have hlen2 : (((p.length : Int) + 1) == 0) = false := by simp; omega
      by_cases hi0 : i < 0
      · show Calls Try.prog 60 #[.agg #[.string t.f0, .slice A1 t.f1.length c1, .slice A2 t.f2.length c2], .slice (some ad) (p.length + 1) c, .agg #[.string u.f0, .slice B1 u.f1.length d1, .slice B2 u.f2.length d2]] W _
        go_enter Try.func60, Try.ntmps60
        go_wp2
        exact bodyPost_ret (v := .tuple #[.agg #[.string z27.f0, .slice none 0 0, .slice none 0 0], .bool false]) (by simp [results, Try.results60, go_sem, z27]) rfl FIN.out
      · have hi1 : (t.f2.length : Int) ≤ i := by omega
        clear hbad
        show Calls Try.prog 60 #[.agg #[.string t.f0, .slice A1 t.f1.length c1, .slice A2 t.f2.length c2], .slice (some ad) (p.length + 1) c, .agg #[.string u.f0, .slice B1 u.f1.length d1, .slice B2 u.f2.length d2]] W _
        go_enter Try.func60, Try.ntmps60
        go_wp2
        exact bodyPost_ret (v := .tuple #[.agg #[.string z27.f0, .slice none 0 0, .slice none 0 0], .bool false]) (by simp [results, Try.results60, go_sem, z27]) rfl FIN.out
    · rw [if_neg hbad] at h
      have hi0 : 0 ≤ i := by omega
      have hi1 : i < (t.f2.length : Int) := by omega
      obtain ⟨r0, hr0, h⟩ := Option.bind_eq_some_iff.1 h
      obtain ⟨ak, cs, hA2, _, hFK, hcs, _⟩ := Kd.F_get h2 z27 i hi0 hi1
      obtain ⟨x, hx⟩ : ∃ x, rd_T27 t.f2 i = x := ⟨_, rfl⟩
      have hx' : t.f2.getD i.toNat z27 = x := hx
      rw [hx'] at hFK
      rw [hx] at hr0
      obtain ⟨X1, e1, X2, e2, rfl, q1, f1, q2, f2⟩ := k27_openF hFK
      subst hA2
      have j0 : W.cell? (ak.add (i.toNat * 3)) = some (.string x.f0) := hcs 0 _ rfl
      have j1 : W.cell? ⟨(ak.add (i.toNat * 3)).block, (ak.add (i.toNat * 3)).off + 1, none⟩ = some (.slice X1 x.f1.length e1) := by rw [← add_field _ _ 1 (by omega)]; exact hcs 1 _ rfl
      have j2 : W.cell? ⟨(ak.add (i.toNat * 3)).block, (ak.add (i.toNat * 3)).off + 2, none⟩ = some (.slice X2 x.f2.length e2) := by rw [← add_field _ _ 2 (by omega)]; exact hcs 2 _ rfl
      have k0 := (hB.cell (World.block_lt_of_cell? _ _ j0)).trans j0
      have k1 := (hB.cell (World.block_lt_of_cell? _ _ j1)).trans j1
      have k2 := (hB.cell (World.block_lt_of_cell? _ _ j2)).trans j2
      clear j0 j1 j2 hcs
      have hlen : (0 : Int) < (p.length : Int) + 1 := by omega
      have hlen2 : (((p.length : Int) + 1) == 0) = false := by simp; omega
      have b0 : (((W.alloc (.cells #[.string t.f0, .slice A1 t.f1.length c1, .slice (some ak) t.f2.length c2] 27)).alloc (.cells #[.string u.f0, .slice B1 u.f1.length d1, .slice B2 u.f2.length d2] 27)).alloc (.cells #[.string ⟨#[]⟩, .slice none 0 0, .slice none 0 0] 27)).heap[W.heap.size]? = some (.cells #[.string t.f0, .slice A1 t.f1.length c1, .slice (some ak) t.f2.length c2] 27 (0, 0)) := blk_alloc (blk_alloc (heap_alloc_new _ _) _) _
      have b1 : (((W.alloc (.cells #[.string t.f0, .slice A1 t.f1.length c1, .slice (some ak) t.f2.length c2] 27)).alloc (.cells #[.string u.f0, .slice B1 u.f1.length d1, .slice B2 u.f2.length d2] 27)).alloc (.cells #[.string ⟨#[]⟩, .slice none 0 0, .slice none 0 0] 27)).heap[W.heap.size + 1]? = some (.cells #[.string u.f0, .slice B1 u.f1.length d1, .slice B2 u.f2.length d2] 27 (0, 0)) := blk_alloc (by have h := heap_alloc_new (W.alloc (.cells #[.string t.f0, .slice A1 t.f1.length c1, .slice (some ak) t.f2.length c2] 27)) (.cells #[.string u.f0, .slice B1 u.f1.length d1, .slice B2 u.f2.length d2] 27); rw [World.size_alloc] at h; exact h) _
      have b2 : (((W.alloc (.cells #[.string t.f0, .slice A1 t.f1.length c1, .slice (some ak) t.f2.length c2] 27)).alloc (.cells #[.string u.f0, .slice B1 u.f1.length d1, .slice B2 u.f2.length d2] 27)).alloc (.cells #[.string ⟨#[]⟩, .slice none 0 0, .slice none 0 0] 27)).heap[W.heap.size + 1 + 1]? = some (.cells #[.string ⟨#[]⟩, .slice none 0 0, .slice none 0 0] 27 (0, 0)) := by have h := heap_alloc_new ((W.alloc (.cells #[.string t.f0, .slice A1 t.f1.length c1, .slice (some ak) t.f2.length c2] 27)).alloc (.cells #[.string u.f0, .slice B1 u.f1.length d1, .slice B2 u.f2.length d2] 27)) (.cells #[.string ⟨#[]⟩, .slice none 0 0, .slice none 0 0] 27); rw [World.size_alloc, World.size_alloc] at h; exact h
      have hs3 : (((W.alloc (.cells #[.string t.f0, .slice A1 t.f1.length c1, .slice (some ak) t.f2.length c2] 27)).alloc (.cells #[.string u.f0, .slice B1 u.f1.length d1, .slice B2 u.f2.length d2] 27)).alloc (.cells #[.string ⟨#[]⟩, .slice none 0 0, .slice none 0 0] 27)).heap.size = W.heap.size + 1 + 1 + 1 := by rw [World.size_alloc, World.size_alloc, World.size_alloc]
      have hQ : ∀ Wc : World, Below (((W.alloc (.cells #[.string t.f0, .slice A1 t.f1.length c1, .slice (some ak) t.f2.length c2] 27)).alloc (.cells #[.string u.f0, .slice B1 u.f1.length d1, .slice B2 u.f2.length d2] 27)).alloc (.cells #[.string ⟨#[]⟩, .slice none 0 0, .slice none 0 0] 27)).heap.size (((W.alloc (.cells #[.string t.f0, .slice A1 t.f1.length c1, .slice (some ak) t.f2.length c2] 27)).alloc (.cells #[.string u.f0, .slice B1 u.f1.length d1, .slice B2 u.f2.length d2] 27)).alloc (.cells #[.string ⟨#[]⟩, .slice none 0 0, .slice none 0 0] 27)) Wc → Calls Try.prog 60 #[.agg #[.string x.f0, .slice X1 x.f1.length e1, .slice X2 x.f2.length e2], .slice (if c = 1 then some ad else some (ad.add 1)) p.length (c - 1), .agg #[.string u.f0, .slice B1 u.f1.length d1, .slice B2 u.f2.length d2]] Wc (fun e w' => RepPost (fun k => P k ∧ k < W.heap.size) Wc r0 e w' ∧ Below (((W.alloc (.cells #[.string t.f0, .slice A1 t.f1.length c1, .slice (some ak) t.f2.length c2] 27)).alloc (.cells #[.string u.f0, .slice B1 u.f1.length d1, .slice B2 u.f2.length d2] 27)).alloc (.cells #[.string ⟨#[]⟩, .slice none 0 0, .slice none 0 0] 27)).heap.size (((W.alloc (.cells #[.string t.f0, .slice A1 t.f1.length c1, .slice (some ak) t.f2.length c2] 27)).alloc (.cells #[.string u.f0, .slice B1 u.f1.length d1, .slice B2 u.f2.length d2] 27)).alloc (.cells #[.string ⟨#[]⟩, .slice none 0 0, .slice none 0 0] 27)) w') := by
        intro Wc hb
        have hbw := hB.trans (hb.mono hB.size)
        have hcut := Kd.C_drop (m := 1) (Kd.F_now (Kd.F_below (Kd.C_F (Kd.heap_int .i64) hC) hbw)) (by simp) hc
        refine (ih x u r0 (fun k => P k ∧ k < W.heap.size) Wc X1 e1 X2 e2 _ (c - 1) B1 d1 B2 d2 hr0 (Kd.F_below (Kd.F_bound f1) hbw) q1 (Kd.F_below (Kd.F_bound f2) hbw) q2 hcut (by simp at hc; omega) (Kd.F_below (Kd.F_bound g1) hbw) gd1 (Kd.F_below (Kd.F_bound g2) hbw) gd2).mono ?_
        intro e w' h
        exact ⟨h, by obtain ⟨_, _, _, _, _, _, _, _, _, hx⟩ := h; exact hb.trans (hx.mono hb.size)⟩
      have H1 := Aside0.mk (Kd.F_below (Kd.F_bound h1) hB)
      have H2 := Aside0.mk (Kd.F_below (Kd.F_bound h2) hB)
      have HB := Aside0.mk hB
      have HC1 := Aside0.mk hc1
      have HC2 := Aside0.mk hc2
      clear hB hc1 hc2 h1 h2 hC ih f1 f2 g1 g2 hFK hc q1 q2 gd1 gd2 hbl x0 hr0 hbad hx hx'
      show Calls Try.prog 60 #[.agg #[.string t.f0, .slice A1 t.f1.length c1, .slice (some ak) t.f2.length c2], .slice (some ad) (p.length + 1) c, .agg #[.string u.f0, .slice B1 u.f1.length d1, .slice B2 u.f2.length d2]] W _
      go_enter Try.func60, Try.ntmps60
      go_upto_region 6 with (fail)
      generalize (((W.alloc (.cells #[.string t.f0, .slice A1 t.f1.length c1, .slice (some ak) t.f2.length c2] 27)).alloc (.cells #[.string u.f0, .slice B1 u.f1.length d1, .slice B2 u.f2.length d2] 27)).alloc (.cells #[.string ⟨#[]⟩, .slice none 0 0, .slice none 0 0] 27)) = W3 at k0 k1 k2 b0 b1 b2 hs3 hQ H1 H2 HB x1 ⊢
      have m2 : W3.cell? ⟨W.heap.size, 2, none⟩ = some (.slice (some ak) t.f2.length c2) := (blk_cell b0 2).trans rfl
      have u0 : W3.cell? ⟨W.heap.size + 1, 0, none⟩ = some (.string u.f0) := (blk_cell b1 0).trans rfl
      have u1 : W3.cell? ⟨W.heap.size + 1, 1, none⟩ = some (.slice B1 u.f1.length d1) := (blk_cell b1 1).trans rfl
      have u2 : W3.cell? ⟨W.heap.size + 1, 2, none⟩ = some (.slice B2 u.f2.length d2) := (blk_cell b1 2).trans rfl
      clear x1
      have BT := Aside0.mk b0
      have BU := Aside0.mk b1
      have BR := Aside0.mk b2
      have HS3 := Aside0.mk hs3
      have K0 := Aside0.mk k0
      have K1 := Aside0.mk k1
      have K2 := Aside0.mk k2
      clear b0 b1 b2 hs3
      go_cut [9, 10] (fun v9 v10 wx => ∃ b9 E1 g1 E2 g2, v9 = .pointer (some ⟨b9, 0, none⟩) ∧ v10 = .bool r0.2 ∧ Aside0 (wx.heap[b9]? = some (.cells #[.string r0.1.f0, .slice E1 r0.1.f1.length g1, .slice E2 r0.1.f2.length g2] 27 (0, 0))) ∧ Aside0 (r0.1.f1.length ≤ g1 ∧ r0.1.f2.length ≤ g2 ∧ W3.heap.size ≤ b9) ∧
        Aside0 (Kd.F (Kd.int .i64) wx (fun k => ((P k ∧ k < W.heap.size) ∨ W3.heap.size ≤ k) ∧ k ≠ b9) E1 r0.1.f1.length r0.1.f1) ∧ Aside0 (Kd.F k27 wx (fun k => ((P k ∧ k < W.heap.size) ∨ W3.heap.size ≤ k) ∧ k ≠ b9) E2 r0.1.f2.length r0.1.f2) ∧ Aside0 (Below W3.heap.size W3 wx))
      case first =>
        have nn0 := World.new_ne W3 _ m2
        have nn1 := World.new_ne W3 _ K0.out
        have nn2 := World.new_ne W3 _ K1.out
        have nn3 := World.new_ne W3 _ K2.out
        have nn4 := World.new_ne W3 _ u0
        have nn5 := World.new_ne W3 _ u1
        have nn6 := World.new_ne W3 _ u2
        have hl1 : (1 : Int) ≤ (p.length : Int) + 1 := by omega
        have hl2 : (1 : Int) ≤ ((p.length + 1 : Nat) : Int) := by omega
        by_cases hc1 : c = 1
        · subst hc1
          simp only [if_true, Nat.sub_self] at hQ
          go_region_held3 (fun w' => w'.cell? ⟨W.heap.size, 2, none⟩ = some (.slice (some ak) t.f2.length c2) ∧ w'.cell? (ak.add (i.toNat * 3)) = some (.string x.f0) ∧ w'.cell? ⟨(ak.add (i.toNat * 3)).block, (ak.add (i.toNat * 3)).off + 1, none⟩ = some (.slice X1 x.f1.length e1) ∧ w'.cell? ⟨(ak.add (i.toNat * 3)).block, (ak.add (i.toNat * 3)).off + 2, none⟩ = some (.slice X2 x.f2.length e2) ∧
              w'.cell? ⟨W.heap.size + 1, 0, none⟩ = some (.string u.f0) ∧ w'.cell? ⟨W.heap.size + 1, 1, none⟩ = some (.slice B1 u.f1.length d1) ∧ w'.cell? ⟨W.heap.size + 1, 2, none⟩ = some (.slice B2 u.f2.length d2))
            (go_keep)
            (first
            | (go_at_call 60
               refine (hQ _ (by repeat (first | (with_reducible first | exact Below.refl _ _ | apply below_alloc | apply pw_below_drewN | apply below_drew)))).mono ?_
               rintro e w1 ⟨⟨E1, g1, E2, g2, rfl, l1, F1, l2, F2, hbx⟩, hb3⟩
               have _q := (show Below (W3.drew).heap.size (W3.drew) w1 from hbx)
               have z0 := (hb3.cell (World.block_lt_of_cell? _ _ m2)).trans m2
               have z1 := (hb3.cell (World.block_lt_of_cell? _ _ K0.out)).trans K0.out
               have z2 := (hb3.cell (World.block_lt_of_cell? _ _ K1.out)).trans K1.out
               have z3 := (hb3.cell (World.block_lt_of_cell? _ _ K2.out)).trans K2.out
               have z4 := (hb3.cell (World.block_lt_of_cell? _ _ u0)).trans u0
               have z5 := (hb3.cell (World.block_lt_of_cell? _ _ u1)).trans u1
               have z6 := (hb3.cell (World.block_lt_of_cell? _ _ u2)).trans u2
               have HB3 := Aside0.mk hb3
               have L1 := Aside0.mk l1
               have L2 := Aside0.mk l2
               have F1 := Aside0.mk F1
               have F2 := Aside0.mk F2
               clear hb3 l1 l2 hbx _q)
            | (go_at_call 60
               refine (hQ _ (by repeat (first | (with_reducible first | exact Below.refl _ _ | apply below_alloc | apply pw_below_drewN | apply below_drew)))).mono ?_
               rintro e w1 ⟨⟨E1, g1, E2, g2, rfl, l1, F1, l2, F2, hbx⟩, hb3⟩
               have y9 : w1.heap[W3.heap.size]? = some (.cells #[.string ⟨#[]⟩, .slice none 0 0, .slice none 0 0] 27 (0, 0)) := blk_below (blk_drew (heap_alloc_new _ _)) hbx
               have yc0 := (blk_cell y9 0).trans rfl
               have yc1 := (blk_cell y9 1).trans rfl
               have yc2 := (blk_cell y9 2).trans rfl
               have yf0 := blk_frozen y9 0
               have yf1 := blk_frozen y9 1
               have yf2 := blk_frozen y9 2
               have Y9 := Aside0.mk y9
               have z0 := (hb3.cell (World.block_lt_of_cell? _ _ m2)).trans m2
               have z1 := (hb3.cell (World.block_lt_of_cell? _ _ K0.out)).trans K0.out
               have z2 := (hb3.cell (World.block_lt_of_cell? _ _ K1.out)).trans K1.out
               have z3 := (hb3.cell (World.block_lt_of_cell? _ _ K2.out)).trans K2.out
               have z4 := (hb3.cell (World.block_lt_of_cell? _ _ u0)).trans u0
               have z5 := (hb3.cell (World.block_lt_of_cell? _ _ u1)).trans u1
               have z6 := (hb3.cell (World.block_lt_of_cell? _ _ u2)).trans u2
               have HB3 := Aside0.mk hb3
               have L1 := Aside0.mk l1
               have L2 := Aside0.mk l2
               have F1 := Aside0.mk F1
               have F2 := Aside0.mk F2
               clear hb3 l1 l2 hbx y9))
          · go_wp2
            go_meet
            refine ⟨w1.heap.size, E1, g1, E2, g2, rfl, rfl, ⟨heap_alloc_new _ _⟩, ⟨L1.out, L2.out, HB3.out.size⟩, ⟨?_⟩, ⟨?_⟩, ⟨below_alloc HB3.out _⟩⟩
            · exact Kd.F_mono (Kd.F_below (Kd.F_bound F1.out) (below_alloc (Below.refl _ _) _)) (fun k hk => ⟨hk.1, Nat.ne_of_lt hk.2⟩)
            · exact Kd.F_mono (Kd.F_below (Kd.F_bound F2.out) (below_alloc (Below.refl _ _) _)) (fun k hk => ⟨hk.1, Nat.ne_of_lt hk.2⟩)
          · go_wp2
            go_meet
            have hfr : ∀ k, (P k ∧ k < W.heap.size) ∨ (W3.alloc (.cells #[.string ⟨#[]⟩, .slice none 0 0, .slice none 0 0] 27)).drew.heap.size ≤ k → ((P k ∧ k < W.heap.size) ∨ W3.heap.size ≤ k) ∧ k ≠ W3.heap.size := fun k hk => by
              have := HS3.out
              rcases hk with hk | hk
              · exact ⟨.inl hk, by omega⟩
              · have h2 : (W3.alloc (.cells #[.string ⟨#[]⟩, .slice none 0 0, .slice none 0 0] 27)).heap.size ≤ k := hk
                rw [World.size_alloc] at h2
                exact ⟨.inr (by omega), by omega⟩
            refine ⟨W3.heap.size, E1, g1, E2, g2, rfl, rfl, ⟨blk_put (cs := #[.string r0.1.f0, .slice E1 r0.1.f1.length g1, .slice none 0 0]) (blk_put (cs := #[.string r0.1.f0, .slice none 0 0, .slice none 0 0]) (blk_put (cs := #[.string ⟨#[]⟩, .slice none 0 0, .slice none 0 0]) Y9.out 0 _ rfl) 1 _ rfl) 2 _ rfl⟩, ⟨L1.out, L2.out, Nat.le_refl _⟩, ⟨?_⟩, ⟨?_⟩, ⟨below_set (below_set (below_set HB3.out (Nat.le_refl _)) (Nat.le_refl _)) (Nat.le_refl _)⟩⟩
            · exact Kd.F_far (Kd.F_far (Kd.F_far (Kd.F_mono F1.out hfr) (fun k hk => hk.2) _) (fun k hk => hk.2) _) (fun k hk => hk.2) _
            · exact Kd.F_far (Kd.F_far (Kd.F_far (Kd.F_mono F2.out hfr) (fun k hk => hk.2) _) (fun k hk => hk.2) _) (fun k hk => hk.2) _
        · simp only [hc1, if_false] at hQ
          replace hc1 := eq_false hc1
          go_region_held3 (fun w' => w'.cell? ⟨W.heap.size, 2, none⟩ = some (.slice (some ak) t.f2.length c2) ∧ w'.cell? (ak.add (i.toNat * 3)) = some (.string x.f0) ∧ w'.cell? ⟨(ak.add (i.toNat * 3)).block, (ak.add (i.toNat * 3)).off + 1, none⟩ = some (.slice X1 x.f1.length e1) ∧ w'.cell? ⟨(ak.add (i.toNat * 3)).block, (ak.add (i.toNat * 3)).off + 2, none⟩ = some (.slice X2 x.f2.length e2) ∧
              w'.cell? ⟨W.heap.size + 1, 0, none⟩ = some (.string u.f0) ∧ w'.cell? ⟨W.heap.size + 1, 1, none⟩ = some (.slice B1 u.f1.length d1) ∧ w'.cell? ⟨W.heap.size + 1, 2, none⟩ = some (.slice B2 u.f2.length d2))
            (go_keep)
            (first
            | (go_at_call 60
               refine (hQ _ (by repeat (first | (with_reducible first | exact Below.refl _ _ | apply below_alloc | apply pw_below_drewN | apply below_drew)))).mono ?_
               rintro e w1 ⟨⟨E1, g1, E2, g2, rfl, l1, F1, l2, F2, hbx⟩, hb3⟩
               have _q := (show Below (W3.drew).heap.size (W3.drew) w1 from hbx)
               have z0 := (hb3.cell (World.block_lt_of_cell? _ _ m2)).trans m2
               have z1 := (hb3.cell (World.block_lt_of_cell? _ _ K0.out)).trans K0.out
               have z2 := (hb3.cell (World.block_lt_of_cell? _ _ K1.out)).trans K1.out
               have z3 := (hb3.cell (World.block_lt_of_cell? _ _ K2.out)).trans K2.out
               have z4 := (hb3.cell (World.block_lt_of_cell? _ _ u0)).trans u0
               have z5 := (hb3.cell (World.block_lt_of_cell? _ _ u1)).trans u1
               have z6 := (hb3.cell (World.block_lt_of_cell? _ _ u2)).trans u2
               have HB3 := Aside0.mk hb3
               have L1 := Aside0.mk l1
               have L2 := Aside0.mk l2
               have F1 := Aside0.mk F1
               have F2 := Aside0.mk F2
               clear hb3 l1 l2 hbx _q)
            | (go_at_call 60
               refine (hQ _ (by repeat (first | (with_reducible first | exact Below.refl _ _ | apply below_alloc | apply pw_below_drewN | apply below_drew)))).mono ?_
               rintro e w1 ⟨⟨E1, g1, E2, g2, rfl, l1, F1, l2, F2, hbx⟩, hb3⟩
               have y9 : w1.heap[W3.heap.size]? = some (.cells #[.string ⟨#[]⟩, .slice none 0 0, .slice none 0 0] 27 (0, 0)) := blk_below (blk_drew (heap_alloc_new _ _)) hbx
               have yc0 := (blk_cell y9 0).trans rfl
               have yc1 := (blk_cell y9 1).trans rfl
               have yc2 := (blk_cell y9 2).trans rfl
               have yf0 := blk_frozen y9 0
               have yf1 := blk_frozen y9 1
               have yf2 := blk_frozen y9 2
               have Y9 := Aside0.mk y9
               have z0 := (hb3.cell (World.block_lt_of_cell? _ _ m2)).trans m2
               have z1 := (hb3.cell (World.block_lt_of_cell? _ _ K0.out)).trans K0.out
               have z2 := (hb3.cell (World.block_lt_of_cell? _ _ K1.out)).trans K1.out
               have z3 := (hb3.cell (World.block_lt_of_cell? _ _ K2.out)).trans K2.out
               have z4 := (hb3.cell (World.block_lt_of_cell? _ _ u0)).trans u0
               have z5 := (hb3.cell (World.block_lt_of_cell? _ _ u1)).trans u1
               have z6 := (hb3.cell (World.block_lt_of_cell? _ _ u2)).trans u2
               have HB3 := Aside0.mk hb3
               have L1 := Aside0.mk l1
               have L2 := Aside0.mk l2
               have F1 := Aside0.mk F1
               have F2 := Aside0.mk F2
               clear hb3 l1 l2 hbx y9))
          · go_wp2
            go_meet
            refine ⟨w1.heap.size, E1, g1, E2, g2, rfl, rfl, ⟨heap_alloc_new _ _⟩, ⟨L1.out, L2.out, HB3.out.size⟩, ⟨?_⟩, ⟨?_⟩, ⟨below_alloc HB3.out _⟩⟩
            · exact Kd.F_mono (Kd.F_below (Kd.F_bound F1.out) (below_alloc (Below.refl _ _) _)) (fun k hk => ⟨hk.1, Nat.ne_of_lt hk.2⟩)
            · exact Kd.F_mono (Kd.F_below (Kd.F_bound F2.out) (below_alloc (Below.refl _ _) _)) (fun k hk => ⟨hk.1, Nat.ne_of_lt hk.2⟩)
          · go_wp2
            go_meet
            have hfr : ∀ k, (P k ∧ k < W.heap.size) ∨ (W3.alloc (.cells #[.string ⟨#[]⟩, .slice none 0 0, .slice none 0 0] 27)).drew.heap.size ≤ k → ((P k ∧ k < W.heap.size) ∨ W3.heap.size ≤ k) ∧ k ≠ W3.heap.size := fun k hk => by
              have := HS3.out
              rcases hk with hk | hk
              · exact ⟨.inl hk, by omega⟩
              · have h2 : (W3.alloc (.cells #[.string ⟨#[]⟩, .slice none 0 0, .slice none 0 0] 27)).heap.size ≤ k := hk
                rw [World.size_alloc] at h2
                exact ⟨.inr (by omega), by omega⟩
            refine ⟨W3.heap.size, E1, g1, E2, g2, rfl, rfl, ⟨blk_put (cs := #[.string r0.1.f0, .slice E1 r0.1.f1.length g1, .slice none 0 0]) (blk_put (cs := #[.string r0.1.f0, .slice none 0 0, .slice none 0 0]) (blk_put (cs := #[.string ⟨#[]⟩, .slice none 0 0, .slice none 0 0]) Y9.out 0 _ rfl) 1 _ rfl) 2 _ rfl⟩, ⟨L1.out, L2.out, Nat.le_refl _⟩, ⟨?_⟩, ⟨?_⟩, ⟨below_set (below_set (below_set HB3.out (Nat.le_refl _)) (Nat.le_refl _)) (Nat.le_refl _)⟩⟩
            · exact Kd.F_far (Kd.F_far (Kd.F_far (Kd.F_mono F1.out hfr) (fun k hk => hk.2) _) (fun k hk => hk.2) _) (fun k hk => hk.2) _
            · exact Kd.F_far (Kd.F_far (Kd.F_far (Kd.F_mono F2.out hfr) (fun k hk => hk.2) _) (fun k hk => hk.2) _) (fun k hk => hk.2) _
      case rest =>
        obtain ⟨b9, E1, g1, E2, g2, rfl, rfl, B9, HL9, HF1, HF2, HBX⟩ := hcut
        clear hQ k0 k1 k2 m2 u0 u1 u2 K0 K1 K2 BU
        have hbw := HB.out.trans (HBX.out.mono HB.out.size)
        have BTc := Aside0.mk (blk_below BT.out HBX.out)
        have BRc := Aside0.mk (blk_below BR.out HBX.out)
        have hlT := blk_lt BTc.out
        have hlR := blk_lt BRc.out
        have hl9 := blk_lt B9.out
        have hne1 : W.heap.size ≠ b9 := by have := HL9.out.2.2; have := HS3.out; omega
        have hne2 : W.heap.size + 1 + 1 ≠ b9 := by have := HL9.out.2.2; have := HS3.out; omega
        have hvv := Kd.F_below H2.out HBX.out
        have hcv := Kd.F_below H1.out HBX.out
        have HBW := Aside0.mk hbw
        by_cases hr : r0.2 = true
        · rw [if_pos hr] at h
          by_cases hl : t.f2.length < 2199023255552
          case neg => rw [if_neg hl] at h; cases h
          rw [if_pos hl] at h
          obtain rfl := Option.some.inj h
          clear h
          rw [hr]
          have m0 : wc.cell? ⟨W.heap.size, 0, none⟩ = some (.string t.f0) := (blk_cell BTc.out 0).trans rfl
          have m1 : wc.cell? ⟨W.heap.size, 1, none⟩ = some (.slice A1 t.f1.length c1) := (blk_cell BTc.out 1).trans rfl
          have m2 : wc.cell? ⟨W.heap.size, 2, none⟩ = some (.slice (some ak) t.f2.length c2) := (blk_cell BTc.out 2).trans rfl
          have h65 := api_Tree_65.calls (fun k => P k ∧ k < W.heap.size) _ _ t.f2 t.f2 wc (Kd.V_mk HC2.out hvv) (by rw [api_Tree_65.f, if_pos hl])
          clear hvv hbw hl
          have HCV := Aside0.mk hcv
          clear hcv
          go_upto_region 10 with (first | (go_at_call 65; refine h65.mono ?_; rintro e w9 ⟨v0, rfl, hN, hbl⟩; obtain ⟨g, co, rfl, hge, _, _⟩ := Kd.N_form hN (by omega); have BT9 := Aside0.mk (blk_below BTc.out hbl); have HN := Aside0.mk hN; have HBL := Aside0.mk hbl; clear hN hbl h65 m0 m1 m2; have m0 := (blk_cell BT9.out 0).trans rfl; have m1 := (blk_cell BT9.out 1).trans rfl; have m2 := (blk_cell BT9.out 2).trans rfl; have n0 := blk_frozen BT9.out 2))
          have hs9 := HBL.out.size
          obtain ⟨wA, hwA⟩ : ∃ wA, wA = w9.setCell ⟨W.heap.size, 2, none⟩ (.slice (some ⟨g, 0, none⟩) t.f2.length co) := ⟨_, rfl⟩
          rw [← hwA]
          have hg : wc.heap.size ≤ g := hge
          have h3c := HBX.out.size
          have h39 := HL9.out.2.2
          have hs3 := HS3.out
          have BTA := Aside0.mk (show wA.heap[W.heap.size]? = some (.cells #[.string t.f0, .slice A1 t.f1.length c1, .slice (some ⟨g, 0, none⟩) t.f2.length co] 27 (0, 0)) by rw [hwA]; exact blk_put BT9.out 2 _ rfl)
          have BRA := Aside0.mk (show wA.heap[W.heap.size + 1 + 1]? = some (.cells #[.string ⟨#[]⟩, .slice none 0 0, .slice none 0 0] 27 (0, 0)) by rw [hwA]; exact (Below.heap_setCell w9 _ _ _ (by show W.heap.size + 1 + 1 ≠ W.heap.size; omega)).trans (blk_below BRc.out HBL.out))
          have B9A := Aside0.mk (show wA.heap[b9]? = some (.cells #[.string r0.1.f0, .slice E1 r0.1.f1.length g1, .slice E2 r0.1.f2.length g2] 27 (0, 0)) by rw [hwA]; exact (Below.heap_setCell w9 _ _ _ (fun h => hne1 h.symm)).trans (blk_below B9.out HBL.out))
          have NA : Kd.N k27 27 wA wc.heap.size (fun k => ((P k ∧ k < W.heap.size) ∨ W3.heap.size ≤ k) ∧ k ≠ b9) (.slice (some ⟨g, 0, none⟩) t.f2.length co) t.f2 := by
            rw [hwA]
            exact Kd.N_far (Kd.N_mono HN.out (fun k hk => ⟨hk.imp_right (fun h => by omega), by (rcases hk with h | h); (have := h.2; omega); omega⟩)) (fun k hk => by rcases hk.1 with h | h <;> simp only [] <;> omega) _
          have F1A : Kd.F (Kd.int .i64) wA (fun k => (((P k ∧ k < W.heap.size) ∨ W3.heap.size ≤ k) ∧ k ≠ b9) ∧ k < wc.heap.size) E1 r0.1.f1.length r0.1.f1 := by
            rw [hwA]
            exact Kd.F_far (Kd.F_below (Kd.F_bound HF1.out) HBL.out) (fun k hk => by rcases hk.1.1 with h | h <;> simp only [] <;> omega) _
          have F2A : Kd.F k27 wA (fun k => (((P k ∧ k < W.heap.size) ∨ W3.heap.size ≤ k) ∧ k ≠ b9) ∧ k < wc.heap.size) E2 r0.1.f2.length r0.1.f2 := by
            rw [hwA]
            exact Kd.F_far (Kd.F_below (Kd.F_bound HF2.out) HBL.out) (fun k hk => by rcases hk.1.1 with h | h <;> simp only [] <;> omega) _
          have FTA : Kd.F (Kd.int .i64) wA (fun k => P k ∧ k < W.heap.size) A1 t.f1.length t.f1 := by
            rw [hwA]
            exact Kd.F_far (Kd.F_below HCV.out HBL.out) (fun k hk => by have := hk.2; simp only []; omega) _
          have hbA : Below W.heap.size W wA := by
            rw [hwA]
            exact below_set (HBW.out.trans (HBL.out.mono HBW.out.size)) (Nat.le_refl _)
          clear hwA m0 m1 m2 n0
          obtain ⟨ce, hcl, hM, hcc, hfz⟩ := Kd.N_elem NA z27 i hi0 hi1
          obtain ⟨q1, d3, q2, d4, rfl, _, _, _, _⟩ := k27_openF hM
          have HP := Kd.N_seg NA i hi0 hi1 (seg := [.string r0.1.f0, .slice E1 r0.1.f1.length g1, .slice E2 r0.1.f2.length g2]) (j := 0) hcl hcc (show 3 ≤ 3 from by decide) (x' := r0.1) (k27_mkF _ _ r0.1 HL9.out.1 F1A HL9.out.2.1 F2A) (fun k hk => ⟨hk.1, by have := hk.2; omega⟩)
          have y0 := hcc 0 _ rfl
          have y1 := hcc 1 _ rfl
          have y2 := hcc 2 _ rfl
          have z0 := hfz 0
          have z1 := hfz 1
          have z2 := hfz 2
          have ks : k27.sz = 3 := rfl
          rw [ks] at y0 y1 y2 z0 z1 z2
          simp only [Nat.add_zero] at y0 z0
          clear hcc hfz hM hcl
          have HPA := Aside0.mk HP
          have HBA := Aside0.mk hbA
          have FT := Aside0.mk FTA
          clear HP hbA FTA F1A F2A NA
          have m2 : wA.cell? ⟨W.heap.size, 2, none⟩ = some (.slice (some ⟨g, 0, none⟩) t.f2.length co) := (blk_cell BTA.out 2).trans rfl
          have u0 : wA.cell? ⟨b9, 0, none⟩ = some (.string r0.1.f0) := (blk_cell B9A.out 0).trans rfl
          have u1 : wA.cell? ⟨b9, 1, none⟩ = some (.slice E1 r0.1.f1.length g1) := (blk_cell B9A.out 1).trans rfl
          have u2 : wA.cell? ⟨b9, 2, none⟩ = some (.slice E2 r0.1.f2.length g2) := (blk_cell B9A.out 2).trans rfl
          go_upto_region 11 with (fail)
          obtain ⟨wB, hwB⟩ : ∃ wB, wB = wA.setCells g (i.toNat * k27.sz + 0) [.string r0.1.f0, .slice E1 r0.1.f1.length g1, .slice E2 r0.1.f2.length g2] := ⟨_, rfl⟩
          have hwB2 : wB = (((wA.setCell ⟨g, i.toNat * 3, none⟩ (.string r0.1.f0)).setCell ⟨g, i.toNat * 3 + 1, none⟩ (.slice E1 r0.1.f1.length g1)).setCell ⟨g, i.toNat * 3 + 2, none⟩ (.slice E2 r0.1.f2.length g2)) := hwB
          rw [← hwB2]
          have HPB := HPA.out
          rw [← hwB] at HPB
          clear hwB hwB2 HPA y0 y1 y2 z0 z1 z2 u0 u1 u2 m2
          have BTB := Aside0.mk (blk_grown BTA.out HPB.2 (by simp; omega))
          have BRB := Aside0.mk (blk_grown BRA.out HPB.2 (by simp; omega))
          have m0 : wB.cell? ⟨W.heap.size, 0, none⟩ = some (.string t.f0) := (blk_cell BTB.out 0).trans rfl
          have m1 : wB.cell? ⟨W.heap.size, 1, none⟩ = some (.slice A1 t.f1.length c1) := (blk_cell BTB.out 1).trans rfl
          have m2 : wB.cell? ⟨W.heap.size, 2, none⟩ = some (.slice (some ⟨g, 0, none⟩) t.f2.length co) := (blk_cell BTB.out 2).trans rfl
          have rr0 : wB.cell? ⟨W.heap.size + 1 + 1, 0, none⟩ = some (.string ⟨#[]⟩) := (blk_cell BRB.out 0).trans rfl
          have rr1 : wB.cell? ⟨W.heap.size + 1 + 1, 1, none⟩ = some (.slice none 0 0) := (blk_cell BRB.out 1).trans rfl
          have rr2 : wB.cell? ⟨W.heap.size + 1 + 1, 2, none⟩ = some (.slice none 0 0) := (blk_cell BRB.out 2).trans rfl
          have s0 := blk_frozen BRB.out 0
          have s1 := blk_frozen BRB.out 1
          have s2 := blk_frozen BRB.out 2
          have HPB2 := Aside0.mk HPB
          have FTB := Aside0.mk (Kd.F_grown FT.out HPB.2 (fun k hk => by have := hk.2; simp; omega))
          have HBB := Aside0.mk (pw_below_grown HBA.out _ HBA.out.size HPB.2 (fun k hk => by have := Option.some.inj hk; omega))
          clear HPB
          go_wp2
          refine bodyPost_ret (results_ct rfl _ _ (W.heap.size + 1 + 1) 27 #[.string t.f0, .slice A1 t.f1.length c1, .slice (some ⟨g, 0, none⟩) t.f2.length co] (0, 0) _ rfl (blk_put (cs := #[.string t.f0, .slice A1 t.f1.length c1, .slice none 0 0]) (blk_put (cs := #[.string t.f0, .slice none 0 0, .slice none 0 0]) (blk_put (cs := #[.string ⟨#[]⟩, .slice none 0 0, .slice none 0 0]) BRB.out 0 _ rfl) 1 _ rfl) 2 _ rfl) Try.underlying27 rfl (by kernel_rfl)) rfl ?_
          have hF2 := Kd.N_F HPB2.out.1
          rw [show t.f2.length = (t.f2.set i.toNat r0.1).length from (List.length_set ..).symm] at hF2
          refine ⟨A1, c1, some ⟨g, 0, none⟩, co, by simp, HC1.out, ?_, ?_, ?_, below_set (below_set (below_set HBB.out (by omega)) (by omega)) (by omega)⟩
          · exact Kd.F_mono (Kd.F_far (Kd.F_far (Kd.F_far FTB.out (fun k hk => by have := hk.2; simp only []; omega) _) (fun k hk => by have := hk.2; simp only []; omega) _) (fun k hk => by have := hk.2; simp only []; omega) _) (fun k hk => .inl hk.1)
          · have := (Kd.N_reads' HPB2.out.1).2.1
            simpa using this
          · exact Kd.F_mono (Kd.F_far (Kd.F_far (Kd.F_far hF2 (fun k hk => by rcases hk.1 with h | h <;> simp only [] <;> omega) _) (fun k hk => by rcases hk.1 with h | h <;> simp only [] <;> omega) _) (fun k hk => by rcases hk.1 with h | h <;> simp only [] <;> omega) _) (fun k hk => hk.1.imp (fun h => h.1) (fun h => by omega))
        · have hr' : r0.2 = false := by simpa using hr
          rw [if_neg hr] at h
          obtain rfl := Option.some.inj h
          rw [hr']
          have rr0 : wc.cell? ⟨W.heap.size + 1 + 1, 0, none⟩ = some (.string ⟨#[]⟩) := (blk_cell BRc.out 0).trans rfl
          have rr1 : wc.cell? ⟨W.heap.size + 1 + 1, 1, none⟩ = some (.slice none 0 0) := (blk_cell BRc.out 1).trans rfl
          have rr2 : wc.cell? ⟨W.heap.size + 1 + 1, 2, none⟩ = some (.slice none 0 0) := (blk_cell BRc.out 2).trans rfl
          have s0 := blk_frozen BRc.out 0
          have s1 := blk_frozen BRc.out 1
          have s2 := blk_frozen BRc.out 2
          clear hvv hcv h hbw hr hr'
          go_wp2
          refine bodyPost_ret (results_ct rfl _ _ (W.heap.size + 1 + 1) 27 #[.string ⟨#[]⟩, .slice none 0 0, .slice none 0 0] (0, 0) _ rfl (blk_put (blk_put (blk_put BRc.out 0 _ rfl) 1 _ rfl) 2 _ rfl) Try.underlying27 rfl (by kernel_rfl)) rfl ?_
          exact ⟨none, 0, none, 0, rfl, Nat.le_refl _, Kd.F_nil _ _ _, Nat.le_refl _, Kd.F_nil _ _ _, below_set (below_set (below_set HBW.out (by omega)) (by omega)) (by omega)⟩
theorem abstract_replace.calls (a0_0 : ByteArray) (P0_1_ : Nat → Prop) (A0_1 : Option Addr) (c0_1 : Nat) (l0_1 : List Int) (P0_2_ : Nat → Prop) (A0_2 : Option Addr) (c0_2 : Nat) (l0_2 : List (S27)) (A1 : Option Addr) (c1 : Nat) (l1 : List Int) (a2_0 : ByteArray) (P2_1_ : Nat → Prop) (A2_1 : Option Addr) (c2_1 : Nat) (l2_1 : List Int) (P2_2_ : Nat → Prop) (A2_2 : Option Addr) (c2_2 : Nat) (l2_2 : List (S27)) (r1 : ByteArray) (r2 : List Int) (r3 : List (S27)) (r4 : Bool) (w : World) (hs0_1 : Kd.V (Kd.int .i64) 3 w w.heap.size (fun k_ => P0_1_ k_) (.slice A0_1 l0_1.length c0_1) l0_1) (hs0_2 : Kd.V k27 27 w w.heap.size (fun k_ => P0_2_ k_) (.slice A0_2 l0_2.length c0_2) l0_2) (hr1 : Kd.C (Kd.int .i64) w A1 l1.length l1) (hc1 : l1.length ≤ c1) (hs2_1 : Kd.V (Kd.int .i64) 3 w w.heap.size (fun k_ => P2_1_ k_) (.slice A2_1 l2_1.length c2_1) l2_1) (hs2_2 : Kd.V k27 27 w w.heap.size (fun k_ => P2_2_ k_) (.slice A2_2 l2_2.length c2_2) l2_2) (h : abstract_replace.f a0_0 l0_1 l0_2 l1 a2_0 l2_1 l2_2 = some (r1, r2, r3, r4)) :
    Calls Try.prog 60 #[.agg #[.string a0_0, .slice A0_1 l0_1.length c0_1, .slice A0_2 l0_2.length c0_2], .slice A1 l1.length c1, .agg #[.string a2_0, .slice A2_1 l2_1.length c2_1, .slice A2_2 l2_2.length c2_2]] w fun e w' => ∃ v1_ v2_ : Value, e = .returned (.tuple #[.agg #[.string r1, v1_, v2_], .bool r4]) ∧ Kd.V (Kd.int .i64) 3 w' w.heap.size (fun k_ => ((P0_1_ k_ ∨ P0_2_ k_ ∨ P2_1_ k_ ∨ P2_2_ k_) ∨ w.heap.size ≤ k_)) v1_ r2 ∧ Kd.V k27 27 w' w.heap.size (fun k_ => ((P0_1_ k_ ∨ P0_2_ k_ ∨ P2_1_ k_ ∨ P2_2_ k_) ∨ w.heap.size ≤ k_)) v2_ r3 ∧ Below w.heap.size w w' := by
  obtain ⟨r, hr, h⟩ := Option.bind_eq_some_iff.1 h
  simp only [Option.some.injEq, Prod.mk.injEq] at h
  obtain ⟨rfl, rfl, rfl, rfl⟩ := h
  refine (repl_any l1 ⟨a0_0, l0_1, l0_2⟩ ⟨a2_0, l2_1, l2_2⟩ r (fun k_ => P0_1_ k_ ∨ P0_2_ k_ ∨ P2_1_ k_ ∨ P2_2_ k_) w A0_1 c0_1 A0_2 c0_2 A1 c1 A2_1 c2_1 A2_2 c2_2 hr (Kd.F_mono (Kd.V_F hs0_1) (fun _ h => .inl h)) (Kd.V_reads' hs0_1).2.1 (Kd.F_mono (Kd.V_F hs0_2) (fun _ h => .inr (.inl h))) (Kd.V_reads' hs0_2).2.1 hr1 hc1 (Kd.F_mono (Kd.V_F hs2_1) (fun _ h => .inr (.inr (.inl h)))) (Kd.V_reads' hs2_1).2.1 (Kd.F_mono (Kd.V_F hs2_2) (fun _ h => .inr (.inr (.inr h)))) (Kd.V_reads' hs2_2).2.1).mono ?_
  rintro e w' ⟨E1, e1, E2, e2, rfl, l1, F1, l2, F2, hb⟩
  exact ⟨_, _, rfl, Kd.V_mk l1 F1, Kd.V_mk l2 F2, hb⟩

end Go.Proofs.Ytfampmajmbediaa.P
