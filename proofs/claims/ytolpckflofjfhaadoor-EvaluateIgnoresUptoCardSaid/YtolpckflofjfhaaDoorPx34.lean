-- printed by wip/tools/xprint.py
import Derived.Test.YtolpckflofjfhaaDoorXMore
import Derived.Test.YtolpckflofjfhaaDoorPx0
import Derived.Test.YtolpckflofjfhaaDoorPx10
import Derived.Test.YtolpckflofjfhaaDoorPx12
import Derived.Test.YtolpckflofjfhaaDoorPx24
import Derived.Test.YtolpckflofjfhaaDoorPx27
namespace Go.Proofs.YtolpckflofjfhaaDoor.P
open Go.RowKit Go.Proofs.YtolpckflofjfhaaDoorW.PrintWords Go.Proofs.YtolpckflofjfhaaDoorW.PrintLast Go.Proofs.YtolpckflofjfhaaDoorW.PrintMore
attribute [local go_sem] max2_int min2_int max_two min_two max_three min_three max_four min_four
set_option linter.unusedVariables false
set_option maxHeartbeats 16000000
set_option maxRecDepth 100000
set_option linter.unusedSimpArgs false

-- leans on 12 13 18 30
/-- A world's rows. -/
structure WM (w : World) (A0 : Option Addr) (c0 : Nat) (ds : List S73) (A1 : Option Addr) (c1 : Nat) (ts : List Int) (A3 : Option Addr) (c3 : Nat) (fs : List S62) : Prop where
 r0 : Kd.C k73 w A0 ds.length ds
 l0 : ds.length ≤ c0
 r1 : Kd.C (Kd.int .i64) w A1 ts.length ts
 l1 : ts.length ≤ c1
 r3 : Kd.C k62 w A3 fs.length fs
 l3 : fs.length ≤ c3
theorem WM.below {w w' : World} {A0 : Option Addr} {c0 : Nat} {ds : List S73} {A1 : Option Addr} {c1 : Nat} {ts : List Int} {A3 : Option Addr} {c3 : Nat} {fs : List S62} (h : WM w A0 c0 ds A1 c1 ts A3 c3 fs) (hb : Below w.heap.size w w') : WM w' A0 c0 ds A1 c1 ts A3 c3 fs :=
 ⟨Kd.C_below h.r0 hb, h.l0, Kd.C_below h.r1 hb, h.l1, Kd.C_below h.r3 hb, h.l3⟩
/-- A formula's rows. -/
structure FM (w : World) (A2 : Option Addr) (c2 : Nat) (l2 : List S92) (A5 : Option Addr) (c5 : Nat) (l5 : List S32) : Prop where
 r2 : Kd.C k92 w A2 l2.length l2
 l2 : l2.length ≤ c2
 r5 : Kd.C k32 w A5 l5.length l5
 l5 : l5.length ≤ c5
theorem FM.below {w w' : World} {A2 : Option Addr} {c2 : Nat} {l2 : List S92} {A5 : Option Addr} {c5 : Nat} {l5 : List S32} (h : FM w A2 c2 l2 A5 c5 l5) (hb : Below w.heap.size w w') : FM w' A2 c2 l2 A5 c5 l5 :=
 ⟨Kd.C_below h.r2 hb, h.l2, Kd.C_below h.r5 hb, h.l5⟩
section contracts
variable (k : Nat) {A0 : Option Addr} {c0 : Nat} {ds : List S73} {A1 : Option Addr} {c1 : Nat} {ts : List Int} (id : Int) {A3 : Option Addr} {c3 : Nat} {fs : List S62} (f0 : Int) (f1 : ByteArray) {F2 : Option Addr} {p2 : Nat} {f2 : List S92} (f3 f4 : Int) {F5 : Option Addr} {p5 : Nat} {f5 : List S32}
theorem lc_light {w : World} {r : Bool} (hw : WM w A0 c0 ds A1 c1 ts A3 c3 fs) (hf : FM w F2 p2 f2 F5 p5 f5) (h : pentaglotref26_Light.f k ds ts id fs f0 f1 f2 f3 f4 f5 = some r) : Calls Tryd.prog 13 #[.agg #[.slice A0 ds.length c0, .slice A1 ts.length c1, .int .i64 id, .slice A3 fs.length c3], .agg #[.int .i64 f0, .string f1, .slice F2 f2.length p2, .int .i64 f3, .int .i64 f4, .slice F5 f5.length p5]] w fun e w' => e = .returned (.bool r) ∧ Below w.heap.size w w' :=
 pentaglotref26_Light.calls k _ _ ds _ _ ts id _ _ fs f0 f1 _ _ f2 f3 f4 _ _ f5 r w hw.r0 hw.l0 hw.r1 hw.l1 hw.r3 hw.l3 hf.r2 hf.l2 hf.r5 hf.l5 h
theorem lc_true {w : World} {r : Bool × Int} (hw : WM w A0 c0 ds A1 c1 ts A3 c3 fs) (hf : FM w F2 p2 f2 F5 p5 f5) (htb : Tb w) (h : evaluate_True.f k ds ts id fs f0 f1 f2 f3 f4 f5 = some r) : Calls Tryd.prog 18 #[.agg #[.slice A0 ds.length c0, .slice A1 ts.length c1, .int .i64 id, .slice A3 fs.length c3], .agg #[.int .i64 f0, .string f1, .slice F2 f2.length p2, .int .i64 f3, .int .i64 f4, .slice F5 f5.length p5]] w fun e w' => e = .returned (.tuple #[.bool r.1, .int .i64 r.2]) ∧ Below w.heap.size w w' :=
 evaluate_True.calls k _ _ ds _ _ ts id _ _ fs f0 f1 _ _ f2 f3 f4 _ _ f5 r.1 r.2 w hw.r0 hw.l0 hw.r1 hw.l1 hw.r3 hw.l3 hf.r2 hf.l2 hf.r5 hf.l5 h htb
theorem lc_walk {w : World} {r : List S32} (hf : FM w F2 p2 f2 F5 p5 f5) (h : pentaglotref22_Walk.f k f0 f1 f2 f3 f4 f5 = some r) : Calls Tryd.prog 30 #[.agg #[.int .i64 f0, .string f1, .slice F2 f2.length p2, .int .i64 f3, .int .i64 f4, .slice F5 f5.length p5]] w fun e w' => ∃ A c, e = .returned (.slice A r.length c) ∧ Kd.C k32 w' A r.length r ∧ Below w.heap.size w w' := by
 refine (pentaglotref22_Walk.calls k f0 f1 (fun k_ => k_ < w.heap.size) _ _ f2 f3 f4 (fun k_ => k_ < w.heap.size) _ _ f5 r w (Kd.V_mk hf.l2 (Kd.C_F k92_heap hf.r2)) (Kd.V_mk hf.l5 (Kd.C_F k32_heap hf.r5)) h).mono ?_
 rintro e w' ⟨v, rfl, hv, hb⟩
 obtain ⟨A, c, rfl, l, g⟩ := Kd.N_V (base' := 0) hv
 exact ⟨A, c, rfl, Kd.F_now g, hb⟩
end contracts
/-- What stands in the world W: the boxes g3 (world), g4 (formula), g5 (fact), and g9 (the other world), all below n0. -/
structure AtI (w W : World) (n0 g3 g4 g5 g9 : Nat) (u v x q : Array Value) : Prop where
 bel : Below w.heap.size w W
 b3 : W.heap[g3]? = some (.cells u 28 (0, 0))
 b4 : W.heap[g4]? = some (.cells v 32 (0, 0))
 b5 : W.heap[g5]? = some (.cells x 62 (0, 0))
 b9 : W.heap[g9]? = some (.cells q 28 (0, 0))
 le : n0 ≤ W.heap.size
 l3 : g3 < n0
 l4 : g4 < n0
 l5 : g5 < n0
 l9 : g9 < n0
 ge : w.heap.size ≤ g9
section
variable {w W W1 : World} {n0 g3 g4 g5 g9 : Nat} {u v x q : Array Value}
theorem AtI.step' (h : AtI w W n0 g3 g4 g5 g9 u v x q) (hb : Below W.heap.size W W1) : AtI w W1 n0 g3 g4 g5 g9 u v x q :=
 ⟨h.bel.trans (hb.mono h.bel.size), blk_below h.b3 hb, blk_below h.b4 hb, blk_below h.b5 hb, blk_below h.b9 hb, Nat.le_trans h.le hb.size, h.l3, h.l4, h.l5, h.l9, h.ge⟩
theorem AtI.grown (h : AtI w W n0 g3 g4 g5 g9 u v x q) {r : Option Nat} (hr : ∀ b, r = some b → n0 ≤ b) (hg : W.grownBy W1 r) (hb : Below w.heap.size w W1) : AtI w W1 n0 g3 g4 g5 g9 u v x q := by
 have ne : ∀ g, g < n0 → some g ≠ r := fun g hg he => by have := hr g he.symm; omega
 exact ⟨hb, blk_grown h.b3 hg (ne _ h.l3), blk_grown h.b4 hg (ne _ h.l4), blk_grown h.b5 hg (ne _ h.l5), blk_grown h.b9 hg (ne _ h.l9), Nat.le_trans h.le hg.size, h.l3, h.l4, h.l5, h.l9, h.ge⟩
theorem AtI.put (h : AtI w W n0 g3 g4 g5 g9 u v x q) (n3 : g3 ≠ g9) (n4 : g4 ≠ g9) (n5 : g5 ≠ g9) (i : Nat) (y : Value) {q' : Array Value} (hv : q.setIfInBounds i y = q') : AtI w (W.setCell ⟨g9, i, none⟩ y) n0 g3 g4 g5 g9 u v x q' :=
 ⟨h.bel.setCell (p := ⟨g9, i, none⟩) h.ge _, blk_far h.b3 (p := ⟨g9, i, none⟩) n3 y, blk_far h.b4 (p := ⟨g9, i, none⟩) n4 y, blk_far h.b5 (p := ⟨g9, i, none⟩) n5 y, blk_put h.b9 i y hv, by rw [World.size_setCell]; exact h.le, h.l3, h.l4, h.l5, h.l9, h.ge⟩
end
theorem own_ge {v : Value} {m n0 : Nat} (h : ∃ b, v.ownBlock = some b ∧ m ≤ b) (hn : n0 ≤ m) : ∀ b, v.ownBlock = some b → n0 ≤ b := by
 obtain ⟨b, e, hb⟩ := h
 intro b' e'
 obtain rfl := Option.some.inj (e.symm.trans e')
 omega
theorem own_next {v v1 : Value} {m n0 : Nat} (h : ∀ b, v.ownBlock = some b → n0 ≤ b) (hat : v1.ownBlock = v.ownBlock ∨ ∃ b, v1.ownBlock = some b ∧ m ≤ b) (hn : n0 ≤ m) : ∀ b, v1.ownBlock = some b → n0 ≤ b := by
 rcases hat with e | e
 ·rw [e]; exact h
 ·exact own_ge e hn
def nameIn (p : ByteArray) (t : S32) : Bool := t.f0 == 3 && t.f1.toList == p.toList
def pentaglotlaw26_EvaluateIgnores.f (k : Nat) (ds : List S73) (ts : List Int) (id : Int) (fs : List S62) (f0 : Int) (f1 : ByteArray) (f2 : List S92) (f3 f4 : Int) (f5 : List S32) (x0 : ByteArray) (x1 : List ByteArray) (x2 x3 : Int) : Option Bool :=
 (pentaglotref22_Walk.f k f0 f1 f2 f3 f4 f5).bind fun l => if l.length < 4398046511104 ∧ fs.length < 1099511627776 then (if l.any (nameIn x0) = true then some true else
 (pentaglotref26_Light.f k ds ts id (fs ++ [⟨x0, x1, x2, x3⟩]) f0 f1 f2 f3 f4 f5).bind fun v => if v = false then some true else
 (evaluate_True.f k ds ts id fs f0 f1 f2 f3 f4 f5).bind fun X => (evaluate_True.f k ds ts id (fs ++ [⟨x0, x1, x2, x3⟩]) f0 f1 f2 f3 f4 f5).bind fun Y => if X = Y then some true else none) else none
theorem pentaglotlaw26_EvaluateIgnores.calls (k : Nat) (A0 : Option Addr) (c0 : Nat) (ds : List S73) (A1 : Option Addr) (c1 : Nat) (ts : List Int) (id : Int) (A3 : Option Addr) (c3 : Nat) (fs : List S62) (f0 : Int) (f1 : ByteArray) (F2 : Option Addr) (p2 : Nat) (f2 : List S92) (f3 f4 : Int) (F5 : Option Addr) (p5 : Nat) (f5 : List S32) (x0 : ByteArray) (X1 : Option Addr) (e1 : Nat) (x1 : List ByteArray) (x2 x3 : Int) (r : Bool) (w : World)
  (hr0 : Kd.C k73 w A0 ds.length ds) (hc0 : ds.length ≤ c0) (hr1 : Kd.C (Kd.int .i64) w A1 ts.length ts) (hc1 : ts.length ≤ c1) (hr3 : Kd.C k62 w A3 fs.length fs) (hc3 : fs.length ≤ c3) (hf2 : Kd.C k92 w F2 f2.length f2) (hp2 : f2.length ≤ p2) (hf5 : Kd.C k32 w F5 f5.length f5) (hp5 : f5.length ≤ p5) (hx1 : Kd.C Kd.string w X1 x1.length x1) (he1 : x1.length ≤ e1)
  (h : pentaglotlaw26_EvaluateIgnores.f k ds ts id fs f0 f1 f2 f3 f4 f5 x0 x1 x2 x3 = some r) (htb : Tb w) : Calls Tryd.prog 10 #[.agg #[.slice A0 ds.length c0, .slice A1 ts.length c1, .int .i64 id, .slice A3 fs.length c3], .agg #[.int .i64 f0, .string f1, .slice F2 f2.length p2, .int .i64 f3, .int .i64 f4, .slice F5 f5.length p5], .agg #[.string x0, .slice X1 x1.length e1, .int .i64 x2, .int .i64 x3]] w fun e w' => e = .returned (.bool r) ∧ Below w.heap.size w w' := by
 have HW : Aside0 (WM w A0 c0 ds A1 c1 ts A3 c3 fs) := ⟨⟨hr0, hc0, hr1, hc1, hr3, hc3⟩⟩
 have HF : Aside0 (FM w F2 p2 f2 F5 p5 f5) := ⟨⟨hf2, hp2, hf5, hp5⟩⟩
 have HX : Aside0 (Kd.C Kd.string w X1 x1.length x1 ∧ x1.length ≤ e1) := ⟨⟨hx1, he1⟩⟩
 have HTB := mk_ htb
 have HB0 := mk_ (Below.refl w.heap.size w)
 clear hr0 hc0 hr1 hc1 hr3 hc3 hf2 hp2 hf5 hp5 hx1 he1 htb
 unfold pentaglotlaw26_EvaluateIgnores.f at h
 obtain ⟨l, hl, h⟩ := Option.bind_eq_some_iff.1 h
 have HL := mk_ hl
 clear hl
 by_cases hlen : l.length < 4398046511104 ∧ fs.length < 1099511627776
 case neg => rw [if_neg hlen] at h; cases h
 rw [if_pos hlen] at h
 have HLEN := mk_ hlen
 clear hlen
 have hu28 := Tryd.underlying28
 have hu32 := Tryd.underlying32
 have hu62 := Tryd.underlying62
 have hu30 := Tryd.underlying30
 by_cases hany : l.any (nameIn x0) = true
 ·rw [if_pos hany] at h
  obtain rfl := Option.some.inj h
  obtain ⟨y, hy, hyn⟩ := List.any_eq_true.1 hany
  obtain ⟨jy, hjy, rfl⟩ := List.getElem_of_mem hy
  have HY := mk_ (And.intro hjy hyn)
  clear h hany hy hyn
  go_enter Tryd.func10, Tryd.ntmps10
  go_wp2_with (first | ((with_reducible refine gate_dst (N := 3) rfl ?_); refine bx_ 3 #[.slice A0 ds.length c0, .slice A1 ts.length c1, .int .i64 id, .slice A3 fs.length c3] 28 ?_; intro g3 hg w1 hbox hb; have BK3 := mk_ hbox; have HB1 := mk_ (below_step HB0.out hb); clear hb hbox hg HB0) | ((with_reducible refine gate_dst (N := 4) rfl ?_); refine bx_ 4 #[.int .i64 f0, .string f1, .slice F2 f2.length p2, .int .i64 f3, .int .i64 f4, .slice F5 f5.length p5] 32 ?_; intro g4 hg w2 hbox hb; have BJ3 := mk_ (blk_below BK3.out hb); have N43 := mk_ (show g3 < g4 by rw [hg]; exact blk_lt BK3.out); have BK4 := mk_ hbox; have HB2 := mk_ (below_step HB1.out hb); clear hb hbox hg HB1 BK3) | ((with_reducible refine gate_dst (N := 5) rfl ?_); refine bx_ 5 #[.string x0, .slice X1 x1.length e1, .int .i64 x2, .int .i64 x3] 62 ?_; intro g5 hg w3 hbox hb; have BJ4 := mk_ (blk_below BK4.out hb); have BI3 := mk_ (blk_below BJ3.out hb); have N54 := mk_ (show g4 < g5 by rw [hg]; exact blk_lt BK4.out); have BK5 := mk_ hbox; have HB3 := mk_ (below_step HB2.out hb); clear hb hbox hg HB2 BJ3 BK4) | (go_at_call 12; refine (pentaglotlaw26_awake.calls k true _ rfl (tb_on HTB.out HB3.out)).mono ?_; rintro e w4 ⟨rfl, hb⟩; have HB4 := mk_ (below_step HB3.out hb); replace BI3 := mk_ (blk_below BI3.out hb); replace BJ4 := mk_ (blk_below BJ4.out hb); replace BK5 := mk_ (blk_below BK5.out hb); clear hb HB3; obtain ⟨_, _, _, _, _, _, -, -, -, -, -, -⟩ := hb6_ BJ4) | (go_at_call 30; refine (lc_walk k f0 f1 f3 f4 (HF.out.below HB4.out) HL.out).mono ?_; rintro e w5 ⟨AL, cL, rfl, hC, hb⟩; have HC := mk_ hC; have HB5 := mk_ (below_step HB4.out hb); replace BI3 := mk_ (blk_below BI3.out hb); replace BJ4 := mk_ (blk_below BJ4.out hb); replace BK5 := mk_ (blk_below BK5.out hb); clear hb hC HB4))
  go_loopw [8] (fun v wr => ∃ i : Nat, v = .int .i64 (i : Int) ∧ Aside0 (i ≤ l.length) ∧ Aside0 (∀ j, j < i → ∀ hj : j < l.length, nameIn x0 l[j] = false) ∧ Aside0 (wr.heap[g3]? = some (.cells #[.slice A0 ds.length c0, .slice A1 ts.length c1, .int .i64 id, .slice A3 fs.length c3] 28 (0, 0))) ∧ Aside0 (wr.heap[g4]? = some (.cells #[.int .i64 f0, .string f1, .slice F2 f2.length p2, .int .i64 f3, .int .i64 f4, .slice F5 f5.length p5] 32 (0, 0))) ∧ Aside0 (wr.heap[g5]? = some (.cells #[.string x0, .slice X1 x1.length e1, .int .i64 x2, .int .i64 x3] 62 (0, 0))) ∧ Aside0 (Kd.C k32 wr AL l.length l) ∧ Aside0 (Below w.heap.size w wr)) (fun v _ => l.length - (intOf v).toNat)
  case atStart => exact ⟨0, rfl, ⟨Nat.zero_le _⟩, ⟨fun j hj => absurd hj (Nat.not_lt_zero _)⟩, BI3, BJ4, BK5, HC, HB5⟩
  case round =>
   clear BI3 BJ4 BK5 HC HB5
   obtain ⟨i, rfl, HI, HNO, BI3, BJ4, BK5, HC, HB5⟩ := hrel
   have hlen := HLEN.out
   by_cases hlt : i < l.length
   ·have h0 : 0 ≤ (i : Int) := by omega
    have h1 : (i : Int) < (l.length : Int) := by omega
    obtain ⟨ad, X2, y2, X5, y5, rfl, hk0, hk1, -, -, -, -, -, -, -, -⟩ := at_T32 HC.out (i : Int) h0 h1
    have hrd : rd_T32 l (i : Int) = l[i] := by unfold rd_T32; rw [Int.toNat_natCast, List.getD_eq_getElem?_getD, List.getElem?_eq_getElem hlt]; rfl
    rw [hrd, Int.toNat_natCast] at hk0 hk1
    have HNEXT := mk_ (fun (hn : nameIn x0 l[i] = false) (j : Nat) (hj : j < i + 1) (hjl : j < l.length) => (Nat.lt_or_eq_of_le (Nat.le_of_lt_succ hj)).elim (fun h => HNO.out j h hjl) (fun h => by subst h; exact hn))
    have HMEM := mk_ (List.getElem_mem hlt)
    obtain ⟨x, hx⟩ : ∃ x, x = l[i] := ⟨_, rfl⟩
    rw [← hx] at hk0 hk1 HNEXT HMEM
    clear hx hrd
    have p0 : (0 ≤ (i : Int)) = True := eq_true h0
    have p1 : ((i : Int) < (l.length : Int)) = True := eq_true h1
    have e1_ : wrap64 ((i : Int) + 1) = ((i + 1 : Nat) : Int) := by unfold wrap64; omega
    have HE := mk_ e1_
    clear e1_ h0 h1 hlen
    by_cases hop : x.f0 = 3
    ·obtain ⟨d0, d1⟩ := eb_ hop
     by_cases hnm : x.f1.toList = x0.toList
     ·obtain ⟨n0, n1⟩ := eb_ hnm
      have HNV := mk_ (show nameIn x0 x = true by unfold nameIn; rw [d0, n0]; rfl)
      clear hop hnm
      go_wp2
      refine start_ (n := 16) (S := fun w' => w'.cell? (ad.add (i * 6)) = some (.int .i64 x.f0) ∧ w'.cell? ⟨(ad.add (i * 6)).block, (ad.add (i * 6)).off + 1, none⟩ = some (.string x.f1) ∧ w'.cell? ⟨g5, 0, none⟩ = some (.string x0)) (ds := []) (Array.replicate 16 false) (by kernel_rfl) rfl rfl ⟨((below_drew (Below.refl wr.heap.size wr)).cell (World.block_lt_of_cell? _ _ hk0)).trans hk0, ((below_drew (Below.refl wr.heap.size wr)).cell (World.block_lt_of_cell? _ _ hk1)).trans hk1, (blk_cell (blk_drew BK5.out) 0).trans rfl⟩ (fun hHeld => ?_)
      refine pu_ 0 (some 24) ?_
      refine pu_ 1 (some 25) ?_
      refine pu_ 2 (some 26) ?_
      refine pu_ 3 (some 27) ?_
      refine tk_ 4 (some 28) hHeld ?_
      refine pu_ 5 (some 29) ?_
      refine pu_ 6 (some 30) ?_
      refine pu_ 7 (some 31) ?_
      refine pu_ 8 (some 32) ?_
      refine pu_ 9 (some 33) ?_
      refine pu_ 10 (some 34) ?_
      refine tk_ 11 (some 35) hHeld ?_
      refine pu_ 12 (some 36) ?_
      refine tk_ 13 (some 37) hHeld ?_
      refine pu_ 14 (some 38) ?_
      refine pu_ 15 (some 39) ?_
      refine done_ (by kernel_rfl) ?_
      go_wp2
      go_ret
      exact ⟨rfl, below_drew HB5.out⟩
     ·obtain ⟨n0, n1⟩ := en_ hnm
      have HNV := mk_ (show nameIn x0 x = false by unfold nameIn; rw [d0, n0]; rfl)
      clear hop hnm
      go_wp2
      refine start_ (n := 16) (S := fun w' => w'.cell? (ad.add (i * 6)) = some (.int .i64 x.f0) ∧ w'.cell? ⟨(ad.add (i * 6)).block, (ad.add (i * 6)).off + 1, none⟩ = some (.string x.f1) ∧ w'.cell? ⟨g5, 0, none⟩ = some (.string x0)) (ds := []) (Array.replicate 16 false) (by kernel_rfl) rfl rfl ⟨((below_drew (Below.refl wr.heap.size wr)).cell (World.block_lt_of_cell? _ _ hk0)).trans hk0, ((below_drew (Below.refl wr.heap.size wr)).cell (World.block_lt_of_cell? _ _ hk1)).trans hk1, (blk_cell (blk_drew BK5.out) 0).trans rfl⟩ (fun hHeld => ?_)
      refine pu_ 0 (some 24) ?_
      refine pu_ 1 (some 25) ?_
      refine pu_ 2 (some 26) ?_
      refine pu_ 3 (some 27) ?_
      refine tk_ 4 (some 28) hHeld ?_
      refine pu_ 5 (some 29) ?_
      refine pu_ 6 (some 30) ?_
      refine pu_ 7 (some 31) ?_
      refine pu_ 8 (some 32) ?_
      refine pu_ 9 (some 33) ?_
      refine pu_ 10 (some 34) ?_
      refine tk_ 11 (some 35) hHeld ?_
      refine pu_ 12 (some 36) ?_
      refine tk_ 13 (some 37) hHeld ?_
      refine pu_ 14 (some 38) ?_
      refine pu_ 15 (some 39) ?_
      refine done_ (by kernel_rfl) ?_
      go_wp2
      go_roundw
      case rel => exact ⟨i + 1, by rw [HE.out], ⟨by omega⟩, ⟨HNEXT.out HNV.out⟩, ⟨blk_drew BI3.out⟩, ⟨blk_drew BJ4.out⟩, ⟨blk_drew BK5.out⟩, ⟨Kd.C_below HC.out (below_drew (Below.refl _ _))⟩, ⟨below_drew HB5.out⟩⟩
      case measure => rw [HE.out]; simp only [intOf]; omega
    ·obtain ⟨d0, d1⟩ := en_ hop
     have HNV := mk_ (show nameIn x0 x = false by unfold nameIn; rw [d0]; rfl)
     clear hop
     go_wp2
     refine start_ (n := 16) (S := fun w' => w'.cell? (ad.add (i * 6)) = some (.int .i64 x.f0)) (ds := []) (Array.replicate 16 false) (by kernel_rfl) rfl rfl (((below_drew (Below.refl wr.heap.size wr)).cell (World.block_lt_of_cell? _ _ hk0)).trans hk0) (fun hHeld => ?_)
     refine pu_ 0 (some 24) ?_
     refine pu_ 1 (some 25) ?_
     refine pu_ 2 (some 26) ?_
     refine pu_ 3 (some 27) ?_
     refine tk_ 4 (some 28) hHeld ?_
     refine pu_ 5 (some 29) ?_
     refine pu_ 6 (some 30) ?_
     refine pu_ 7 (some 31) ?_
     refine pu_ 8 (some 32) ?_
     refine pu_ 9 (some 33) ?_
     refine pu_ 10 (some 34) ?_
     refine pu_ 11 (some 35) ?_
     refine pu_ 12 (some 36) ?_
     refine pu_ 13 (some 37) ?_
     refine pu_ 14 (some 38) ?_
     refine pu_ 15 (some 39) ?_
     refine done_ (by kernel_rfl) ?_
     go_wp2
     go_roundw
     case rel => exact ⟨i + 1, by rw [HE.out], ⟨by omega⟩, ⟨HNEXT.out HNV.out⟩, ⟨blk_drew BI3.out⟩, ⟨blk_drew BJ4.out⟩, ⟨blk_drew BK5.out⟩, ⟨Kd.C_below HC.out (below_drew (Below.refl _ _))⟩, ⟨below_drew HB5.out⟩⟩
     case measure => rw [HE.out]; simp only [intOf]; omega
   ·obtain rfl : i = l.length := by have := HI.out; omega
    clear hlt hlen
    exact absurd (HNO.out jy (by exact HY.out.1) HY.out.1) (by rw [HY.out.2]; decide)
 rw [if_neg hany] at h
 have HNM : Aside0 (∀ x ∈ l, ¬ nameIn x0 x = true) := ⟨fun x hx hn => hany (List.any_eq_true.2 ⟨x, hx, hn⟩)⟩
 clear hany
 obtain ⟨v, hv, h⟩ := Option.bind_eq_some_iff.1 h
 have HV := mk_ hv
 have HH := mk_ h
 clear hv h
 go_enter Tryd.func10, Tryd.ntmps10
 go_wp2_with (first | ((with_reducible refine gate_dst (N := 3) rfl ?_); refine bx_ 3 #[.slice A0 ds.length c0, .slice A1 ts.length c1, .int .i64 id, .slice A3 fs.length c3] 28 ?_; intro g3 hg w1 hbox hb; have BK3 := mk_ hbox; have HB1 := mk_ (below_step HB0.out hb); clear hb hbox hg HB0) | ((with_reducible refine gate_dst (N := 4) rfl ?_); refine bx_ 4 #[.int .i64 f0, .string f1, .slice F2 f2.length p2, .int .i64 f3, .int .i64 f4, .slice F5 f5.length p5] 32 ?_; intro g4 hg w2 hbox hb; have BJ3 := mk_ (blk_below BK3.out hb); have N43 := mk_ (show g3 < g4 by rw [hg]; exact blk_lt BK3.out); have BK4 := mk_ hbox; have HB2 := mk_ (below_step HB1.out hb); clear hb hbox hg HB1 BK3) | ((with_reducible refine gate_dst (N := 5) rfl ?_); refine bx_ 5 #[.string x0, .slice X1 x1.length e1, .int .i64 x2, .int .i64 x3] 62 ?_; intro g5 hg w3 hbox hb; have BJ4 := mk_ (blk_below BK4.out hb); have BI3 := mk_ (blk_below BJ3.out hb); have N54 := mk_ (show g4 < g5 by rw [hg]; exact blk_lt BK4.out); have BK5 := mk_ hbox; have HB3 := mk_ (below_step HB2.out hb); clear hb hbox hg HB2 BJ3 BK4) | (go_at_call 12; refine (pentaglotlaw26_awake.calls k true _ rfl (tb_on HTB.out HB3.out)).mono ?_; rintro e w4 ⟨rfl, hb⟩; have HB4 := mk_ (below_step HB3.out hb); replace BI3 := mk_ (blk_below BI3.out hb); replace BJ4 := mk_ (blk_below BJ4.out hb); replace BK5 := mk_ (blk_below BK5.out hb); clear hb HB3; obtain ⟨_, _, _, _, _, _, -, -, -, -, -, -⟩ := hb6_ BJ4) | (go_at_call 30; refine (lc_walk k f0 f1 f3 f4 (HF.out.below HB4.out) HL.out).mono ?_; rintro e w5 ⟨AL, cL, rfl, hC, hb⟩; have HC := mk_ hC; have HB5 := mk_ (below_step HB4.out hb); replace BI3 := mk_ (blk_below BI3.out hb); replace BJ4 := mk_ (blk_below BJ4.out hb); replace BK5 := mk_ (blk_below BK5.out hb); clear hb hC HB4))
 go_loopw [8] (fun v wr => ∃ i : Nat, v = .int .i64 (i : Int) ∧ Aside0 (i ≤ l.length) ∧ Aside0 (∀ j, j < i → ∀ hj : j < l.length, nameIn x0 l[j] = false) ∧ Aside0 (wr.heap[g3]? = some (.cells #[.slice A0 ds.length c0, .slice A1 ts.length c1, .int .i64 id, .slice A3 fs.length c3] 28 (0, 0))) ∧ Aside0 (wr.heap[g4]? = some (.cells #[.int .i64 f0, .string f1, .slice F2 f2.length p2, .int .i64 f3, .int .i64 f4, .slice F5 f5.length p5] 32 (0, 0))) ∧ Aside0 (wr.heap[g5]? = some (.cells #[.string x0, .slice X1 x1.length e1, .int .i64 x2, .int .i64 x3] 62 (0, 0))) ∧ Aside0 (Kd.C k32 wr AL l.length l) ∧ Aside0 (Below w.heap.size w wr)) (fun v _ => l.length - (intOf v).toNat)
 case atStart => exact ⟨0, rfl, ⟨Nat.zero_le _⟩, ⟨fun j hj => absurd hj (Nat.not_lt_zero _)⟩, BI3, BJ4, BK5, HC, HB5⟩
 case round =>
  clear BI3 BJ4 BK5 HC HB5
  obtain ⟨i, rfl, HI, HNO, BI3, BJ4, BK5, HC, HB5⟩ := hrel
  have hlen := HLEN.out
  by_cases hlt : i < l.length
  ·have h0 : 0 ≤ (i : Int) := by omega
   have h1 : (i : Int) < (l.length : Int) := by omega
   obtain ⟨ad, X2, y2, X5, y5, rfl, hk0, hk1, -, -, -, -, -, -, -, -⟩ := at_T32 HC.out (i : Int) h0 h1
   have hrd : rd_T32 l (i : Int) = l[i] := by unfold rd_T32; rw [Int.toNat_natCast, List.getD_eq_getElem?_getD, List.getElem?_eq_getElem hlt]; rfl
   rw [hrd, Int.toNat_natCast] at hk0 hk1
   have HNEXT := mk_ (fun (hn : nameIn x0 l[i] = false) (j : Nat) (hj : j < i + 1) (hjl : j < l.length) => (Nat.lt_or_eq_of_le (Nat.le_of_lt_succ hj)).elim (fun h => HNO.out j h hjl) (fun h => by subst h; exact hn))
   have HMEM := mk_ (List.getElem_mem hlt)
   obtain ⟨x, hx⟩ : ∃ x, x = l[i] := ⟨_, rfl⟩
   rw [← hx] at hk0 hk1 HNEXT HMEM
   clear hx hrd
   have p0 : (0 ≤ (i : Int)) = True := eq_true h0
   have p1 : ((i : Int) < (l.length : Int)) = True := eq_true h1
   have e1_ : wrap64 ((i : Int) + 1) = ((i + 1 : Nat) : Int) := by unfold wrap64; omega
   have HE := mk_ e1_
   clear e1_ h0 h1 hlen
   by_cases hop : x.f0 = 3
   ·obtain ⟨d0, d1⟩ := eb_ hop
    by_cases hnm : x.f1.toList = x0.toList
    ·exact absurd (HNM.out x HMEM.out) (by unfold nameIn; rw [hop, hnm]; simp)
    ·obtain ⟨n0, n1⟩ := en_ hnm
     have HNV := mk_ (show nameIn x0 x = false by unfold nameIn; rw [d0, n0]; rfl)
     clear hop hnm
     go_wp2
     refine start_ (n := 16) (S := fun w' => w'.cell? (ad.add (i * 6)) = some (.int .i64 x.f0) ∧ w'.cell? ⟨(ad.add (i * 6)).block, (ad.add (i * 6)).off + 1, none⟩ = some (.string x.f1) ∧ w'.cell? ⟨g5, 0, none⟩ = some (.string x0)) (ds := []) (Array.replicate 16 false) (by kernel_rfl) rfl rfl ⟨((below_drew (Below.refl wr.heap.size wr)).cell (World.block_lt_of_cell? _ _ hk0)).trans hk0, ((below_drew (Below.refl wr.heap.size wr)).cell (World.block_lt_of_cell? _ _ hk1)).trans hk1, (blk_cell (blk_drew BK5.out) 0).trans rfl⟩ (fun hHeld => ?_)
     refine pu_ 0 (some 24) ?_
     refine pu_ 1 (some 25) ?_
     refine pu_ 2 (some 26) ?_
     refine pu_ 3 (some 27) ?_
     refine tk_ 4 (some 28) hHeld ?_
     refine pu_ 5 (some 29) ?_
     refine pu_ 6 (some 30) ?_
     refine pu_ 7 (some 31) ?_
     refine pu_ 8 (some 32) ?_
     refine pu_ 9 (some 33) ?_
     refine pu_ 10 (some 34) ?_
     refine tk_ 11 (some 35) hHeld ?_
     refine pu_ 12 (some 36) ?_
     refine tk_ 13 (some 37) hHeld ?_
     refine pu_ 14 (some 38) ?_
     refine pu_ 15 (some 39) ?_
     refine done_ (by kernel_rfl) ?_
     go_wp2
     go_roundw
     case rel => exact ⟨i + 1, by rw [HE.out], ⟨by omega⟩, ⟨HNEXT.out HNV.out⟩, ⟨blk_drew BI3.out⟩, ⟨blk_drew BJ4.out⟩, ⟨blk_drew BK5.out⟩, ⟨Kd.C_below HC.out (below_drew (Below.refl _ _))⟩, ⟨below_drew HB5.out⟩⟩
     case measure => rw [HE.out]; simp only [intOf]; omega
   ·obtain ⟨d0, d1⟩ := en_ hop
    have HNV := mk_ (show nameIn x0 x = false by unfold nameIn; rw [d0]; rfl)
    clear hop
    go_wp2
    refine start_ (n := 16) (S := fun w' => w'.cell? (ad.add (i * 6)) = some (.int .i64 x.f0)) (ds := []) (Array.replicate 16 false) (by kernel_rfl) rfl rfl (((below_drew (Below.refl wr.heap.size wr)).cell (World.block_lt_of_cell? _ _ hk0)).trans hk0) (fun hHeld => ?_)
    refine pu_ 0 (some 24) ?_
    refine pu_ 1 (some 25) ?_
    refine pu_ 2 (some 26) ?_
    refine pu_ 3 (some 27) ?_
    refine tk_ 4 (some 28) hHeld ?_
    refine pu_ 5 (some 29) ?_
    refine pu_ 6 (some 30) ?_
    refine pu_ 7 (some 31) ?_
    refine pu_ 8 (some 32) ?_
    refine pu_ 9 (some 33) ?_
    refine pu_ 10 (some 34) ?_
    refine pu_ 11 (some 35) ?_
    refine pu_ 12 (some 36) ?_
    refine pu_ 13 (some 37) ?_
    refine pu_ 14 (some 38) ?_
    refine pu_ 15 (some 39) ?_
    refine done_ (by kernel_rfl) ?_
    go_wp2
    go_roundw
    case rel => exact ⟨i + 1, by rw [HE.out], ⟨by omega⟩, ⟨HNEXT.out HNV.out⟩, ⟨blk_drew BI3.out⟩, ⟨blk_drew BJ4.out⟩, ⟨blk_drew BK5.out⟩, ⟨Kd.C_below HC.out (below_drew (Below.refl _ _))⟩, ⟨below_drew HB5.out⟩⟩
    case measure => rw [HE.out]; simp only [intOf]; omega
  ·obtain rfl : i = l.length := by have := HI.out; omega
   clear hlt hlen
   clear HNO HI HC
   have hlen := HLEN.out
   obtain ⟨_, _, _, _, -, -, -, -⟩ := hb4_ BI3
   go_upto_region 10 with (first | ((with_reducible refine gate_dst (N := 9) rfl ?_); refine bx_ 9 #[.slice none 0 0, .slice none 0 0, .int .i64 0, .slice none 0 0] 28 ?_; intro g9 hg w6 hbox hb; have N3 := mk_ (show g3 < g9 by rw [hg]; exact blk_lt BI3.out); have N4 := mk_ (show g4 < g9 by rw [hg]; exact blk_lt BJ4.out); have N5 := mk_ (show g5 < g9 by rw [hg]; exact blk_lt BK5.out); have GE := mk_ (gs_ hg HB5.out); have HB6 := mk_ (below_step HB5.out hb); replace BI3 := mk_ (blk_below BI3.out hb); replace BJ4 := mk_ (blk_below BJ4.out hb); replace BK5 := mk_ (blk_below BK5.out hb); have BK9 := mk_ hbox; clear hb hbox hg HB5; obtain ⟨_, _, _, _, _, _, _, _⟩ := hb4_ BK9))
   have HD := mk_ (((((AtI.mk HB6.out BI3.out BJ4.out BK5.out BK9.out (Nat.le_refl _) (blk_lt BI3.out) (blk_lt BJ4.out) (blk_lt BK5.out) (blk_lt BK9.out) GE.out).put (Nat.ne_of_lt N3.out) (Nat.ne_of_lt N4.out) (Nat.ne_of_lt N5.out) 0 (.slice A0 ds.length c0) (q' := #[.slice A0 ds.length c0, .slice none 0 0, .int .i64 0, .slice none 0 0]) rfl).put (Nat.ne_of_lt N3.out) (Nat.ne_of_lt N4.out) (Nat.ne_of_lt N5.out) 1 (.slice A1 ts.length c1) (q' := #[.slice A0 ds.length c0, .slice A1 ts.length c1, .int .i64 0, .slice none 0 0]) rfl).put (Nat.ne_of_lt N3.out) (Nat.ne_of_lt N4.out) (Nat.ne_of_lt N5.out) 2 (.int .i64 id) (q' := #[.slice A0 ds.length c0, .slice A1 ts.length c1, .int .i64 id, .slice none 0 0]) rfl).put (Nat.ne_of_lt N3.out) (Nat.ne_of_lt N4.out) (Nat.ne_of_lt N5.out) 3 (.slice A3 fs.length c3) (q' := #[.slice A0 ds.length c0, .slice A1 ts.length c1, .int .i64 id, .slice A3 fs.length c3]) rfl)
   obtain ⟨n0, hn0⟩ : ∃ n0, n0 = w6.heap.size := ⟨_, rfl⟩
   rw [← hn0] at HD
   generalize ((((w6.setCell ⟨g9, 0, none⟩ (.slice A0 ds.length c0)).setCell ⟨g9, 1, none⟩ (.slice A1 ts.length c1)).setCell ⟨g9, 2, none⟩ (.int .i64 id)).setCell ⟨g9, 3, none⟩ (.slice A3 fs.length c3)) = W5 at HD ⊢
   clear BI3 BJ4 BK5 BK9 HB6 hn0
   replace HD := mk_ (HD.out.step' (below_drew (Below.refl _ _)))
   refine start_ (n := 9) (S := fun w' => w'.cell? ⟨g3, 3, none⟩ = some (.slice A3 fs.length c3) ∧ w'.cell? ⟨g5, 0, none⟩ = some (.string x0) ∧ w'.cell? ⟨g5, 1, none⟩ = some (.slice X1 x1.length e1) ∧ w'.cell? ⟨g5, 2, none⟩ = some (.int .i64 x2) ∧ w'.cell? ⟨g5, 3, none⟩ = some (.int .i64 x3)) (ds := []) (Array.replicate 9 false) (by kernel_rfl) rfl rfl ⟨(blk_cell HD.out.b3 3).trans rfl, (blk_cell HD.out.b5 0).trans rfl, (blk_cell HD.out.b5 1).trans rfl, (blk_cell HD.out.b5 2).trans rfl, (blk_cell HD.out.b5 3).trans rfl⟩ (fun hHeld => ?_)
   generalize W5.drew = W6 at HD hHeld ⊢
   refine pu_ 1 (some 42) ?_
   refine tk_ 2 (some 43) hHeld ?_
   refine tk_ 4 (some 45) hHeld ?_
   refine join_ (σ := Value × Value × Value) 3 #[true, true, true, true, true, true, false, false, false] (fun s_ => [(41, s_.1), (44, s_.2.1), (46, s_.2.2)]) (fun s_ w' => (w'.cell? ⟨g3, 3, none⟩ = some (.slice A3 fs.length c3) ∧ w'.cell? ⟨g5, 0, none⟩ = some (.string x0) ∧ w'.cell? ⟨g5, 1, none⟩ = some (.slice X1 x1.length e1) ∧ w'.cell? ⟨g5, 2, none⟩ = some (.int .i64 x2) ∧ w'.cell? ⟨g5, 3, none⟩ = some (.int .i64 x3)) ∧ AtI w w' n0 g3 g4 g5 g9 #[.slice A0 ds.length c0, .slice A1 ts.length c1, .int .i64 id, .slice A3 fs.length c3] #[.int .i64 f0, .string f1, .slice F2 f2.length p2, .int .i64 f3, .int .i64 f4, .slice F5 f5.length p5] #[.string x0, .slice X1 x1.length e1, .int .i64 x2, .int .i64 x3] #[.slice A0 ds.length c0, .slice A1 ts.length c1, .int .i64 id, .slice A3 fs.length c3] ∧ Kd.N k62 62 w' w.heap.size (fun k_ => k_ ≠ g9) s_.2.1 fs ∧ Kd.N k62 62 w' w.heap.size (fun k_ => k_ ≠ g9 ∧ some k_ ≠ s_.2.1.ownBlock) s_.2.2 [(⟨x0, x1, x2, x3⟩ : S62)] ∧ ∀ b, s_.2.1.ownBlock = some b → n0 ≤ b) ?_ ?_
   rotate_left
   ·intro hCont
    refine two_ (i := 0) (j := 5) (Ni := some 41) (Nj := some 46) #[true, true, true, false, true, false, false, false, false] #[false, true, true, false, true, true, false, false, false] rfl rfl rfl rfl (by kernel_rfl) (by decide) (by decide) (fun K hK => ?_) (fun K hK => ?_)
    ·skip
     refine Kd.N_lit_step k62 _ 62 ?hg (N' := 41) ?hd (xs := ([] : List S62)) (inner := []) (ok := fun k_ => k_ ≠ g9) (okp := fun k_ => k_ ≠ g9) ?hr ?hp (fun _ hk => hk) (Nat.ne_of_gt (blk_lt HD.out.b9)) (Below.refl _ _) (Nat.le_refl _) (by simp) ?_; (case hd => rfl); (case hg => rfl); (case hr => first | (go_simp; done) | (go_simp; rfl)); (case hp => exact (Reps.none _ _))
     intro vO W1 hN hb hg_ hnew_
     have NO := mk_ (own_ge hnew_ HD.out.le)
     have NA := mk_ (Kd.N_lower hN HD.out.bel.size)
     replace HD := mk_ (HD.out.step' hb)
     clear hN hb hg_ hnew_
     refine hK.out _ _ ⟨(blk_cell HD.out.b3 3).trans rfl, (blk_cell HD.out.b5 0).trans rfl, (blk_cell HD.out.b5 1).trans rfl, (blk_cell HD.out.b5 2).trans rfl, (blk_cell HD.out.b5 3).trans rfl⟩ (fun hHeld => ?_)
     clear hK K
     refine no_ (N := some 41) ?_
     refine two_ (i := 3) (j := 5) (Ni := some 44) (Nj := some 46) #[true, true, true, true, true, false, false, false, false] #[true, true, true, false, true, true, false, false, false] rfl rfl rfl rfl (by kernel_rfl) (by decide) (by decide) (fun K hK => ?_) (fun K hK => ?_)
     ·skip
      refine Kd.N_append_rows_step k62 (w0 := w) w.heap.size (by rfl) (.tmp 41) (.tmp 43) 26 62 (.agg #[(.string ⟨#[]⟩), (.slice none 0 0), (.int .i64 0), (.int .i64 0)]) 56 rfl Tryd.underlying26 info62 rfl (by decide) (by omega) vO ([] : List S62) fs _ _ _ (fun k_ => k_ ≠ g9) (fun k_ => k_ < w.heap.size) rfl rfl NA.out (Kd.F_below (Kd.C_F k62_heap HW.out.r3) HD.out.bel) (fun k_ hk => ⟨by have := HD.out.ge; omega, fun he => by have := Kd.N_base NA.out k_ he.symm; omega⟩) (fun k_ hk => by have := blk_lt HD.out.b9; omega) HD.out.bel HD.out.bel.size (by simp; omega) ?_
      intro vA W1 hN hb hg hat
      have NP := mk_ (own_next NO.out hat HD.out.le)
      replace HD := mk_ (HD.out.grown NO.out hg hb)
      replace NA := mk_ hN
      clear hN hb hg hat NO
      refine hK.out _ _ ⟨(blk_cell HD.out.b3 3).trans rfl, (blk_cell HD.out.b5 0).trans rfl, (blk_cell HD.out.b5 1).trans rfl, (blk_cell HD.out.b5 2).trans rfl, (blk_cell HD.out.b5 3).trans rfl⟩ (fun hHeld => ?_)
      clear hK K
      refine no_ (N := some 44) ?_
      refine on_ 5 (some 46) (fun K hK => ?_)
      have hFX : Kd.F Kd.string _ (fun k_ => k_ ≠ g9 ∧ some k_ ≠ vA.ownBlock) X1 x1.length x1 := Kd.F_mono (Kd.F_below (Kd.C_F Kd.heap_string HX.out.1) HD.out.bel) (fun k_ hk => ⟨by have := HD.out.ge; omega, fun he => by have := Kd.N_base NA.out k_ he.symm; omega⟩)
      refine Kd.N_lit_step k62 _ 62 ?hg (N' := 46) ?hd (xs := [(⟨x0, x1, x2, x3⟩ : S62)]) (inner := [.string x0, .slice X1 x1.length e1, .int .i64 x2, .int .i64 x3]) (ok := (fun k_ => k_ ≠ g9 ∧ some k_ ≠ vA.ownBlock)) (okp := (fun k_ => k_ ≠ g9 ∧ some k_ ≠ vA.ownBlock)) ?hr ?hp (fun _ hk => hk) ⟨(Nat.ne_of_gt (blk_lt HD.out.b9)), fun he => by have := Kd.N_lt NA.out _ he.symm; omega⟩ (Below.refl _ _) (Nat.le_refl _) (by simp) ?_; (case hd => rfl); (case hg => rfl); (case hr => first | (go_simp; done) | (go_simp; rfl)); (case hp => exact (Reps.c4 (k62_mkF _ _ (⟨x0, x1, x2, x3⟩ : S62) HX.out.2 hFX) (Reps.none _ _)))
      intro vC W1 hN hb hg_ hnew_
      replace NA := mk_ (Kd.N_below NA.out hb)
      have NB := mk_ (Kd.N_lower hN HD.out.bel.size)
      replace HD := mk_ (HD.out.step' hb)
      clear hN hb hg_ hnew_ hFX
      refine hK.out _ _ ⟨(blk_cell HD.out.b3 3).trans rfl, (blk_cell HD.out.b5 0).trans rfl, (blk_cell HD.out.b5 1).trans rfl, (blk_cell HD.out.b5 2).trans rfl, (blk_cell HD.out.b5 3).trans rfl⟩ (fun hHeld => ?_)
      clear hK K
      refine no_ (N := some 46) ?_
      exact norm_ (by simp only [putAll, Act.put, List.setIfInBounds_toArray, List.set_cons_zero, List.set_cons_succ]) (hCont (vO, vA, vC) _ ⟨hHeld, HD.out, NA.out, NB.out, NP.out⟩)
     ·skip
      have hFX : Kd.F Kd.string _ (fun k_ => k_ ≠ g9 ∧ some k_ ≠ vO.ownBlock) X1 x1.length x1 := Kd.F_mono (Kd.F_below (Kd.C_F Kd.heap_string HX.out.1) HD.out.bel) (fun k_ hk => ⟨by have := HD.out.ge; omega, fun he => by have := Kd.N_base NA.out k_ he.symm; omega⟩)
      refine Kd.N_lit_step k62 _ 62 ?hg (N' := 46) ?hd (xs := [(⟨x0, x1, x2, x3⟩ : S62)]) (inner := [.string x0, .slice X1 x1.length e1, .int .i64 x2, .int .i64 x3]) (ok := (fun k_ => k_ ≠ g9 ∧ some k_ ≠ vO.ownBlock)) (okp := (fun k_ => k_ ≠ g9 ∧ some k_ ≠ vO.ownBlock)) ?hr ?hp (fun _ hk => hk) ⟨(Nat.ne_of_gt (blk_lt HD.out.b9)), fun he => by have := Kd.N_lt NA.out _ he.symm; omega⟩ (Below.refl _ _) (Nat.le_refl _) (by simp) ?_; (case hd => rfl); (case hg => rfl); (case hr => first | (go_simp; done) | (go_simp; rfl)); (case hp => exact (Reps.c4 (k62_mkF _ _ (⟨x0, x1, x2, x3⟩ : S62) HX.out.2 hFX) (Reps.none _ _)))
      intro vC W1 hN hb hg_ hnew_
      replace NA := mk_ (Kd.N_below NA.out hb)
      have NB := mk_ (Kd.N_lower hN HD.out.bel.size)
      replace HD := mk_ (HD.out.step' hb)
      clear hN hb hg_ hnew_ hFX
      refine hK.out _ _ ⟨(blk_cell HD.out.b3 3).trans rfl, (blk_cell HD.out.b5 0).trans rfl, (blk_cell HD.out.b5 1).trans rfl, (blk_cell HD.out.b5 2).trans rfl, (blk_cell HD.out.b5 3).trans rfl⟩ (fun hHeld => ?_)
      clear hK K
      refine no_ (N := some 46) ?_
      refine on_ 3 (some 44) (fun K hK => ?_)
      refine Kd.N_append_rows_step k62 (w0 := w) w.heap.size (by rfl) (.tmp 41) (.tmp 43) 26 62 (.agg #[(.string ⟨#[]⟩), (.slice none 0 0), (.int .i64 0), (.int .i64 0)]) 56 rfl Tryd.underlying26 info62 rfl (by decide) (by omega) vO ([] : List S62) fs _ _ _ (fun k_ => k_ ≠ g9) (fun k_ => k_ < w.heap.size) rfl rfl NA.out (Kd.F_below (Kd.C_F k62_heap HW.out.r3) HD.out.bel) (fun k_ hk => ⟨by have := HD.out.ge; omega, fun he => by have := Kd.N_base NA.out k_ he.symm; omega⟩) (fun k_ hk => by have := blk_lt HD.out.b9; omega) HD.out.bel HD.out.bel.size (by simp; omega) ?_
      intro vA W1 hN hb hg hat
      replace NB := mk_ (Kd.N_after NB.out hg hat)
      have NP := mk_ (own_next NO.out hat HD.out.le)
      replace HD := mk_ (HD.out.grown NO.out hg hb)
      replace NA := mk_ hN
      clear hN hb hg hat NO
      refine hK.out _ _ ⟨(blk_cell HD.out.b3 3).trans rfl, (blk_cell HD.out.b5 0).trans rfl, (blk_cell HD.out.b5 1).trans rfl, (blk_cell HD.out.b5 2).trans rfl, (blk_cell HD.out.b5 3).trans rfl⟩ (fun hHeld => ?_)
      clear hK K
      refine no_ (N := some 44) ?_
      exact norm_ (by simp only [putAll, Act.put, List.setIfInBounds_toArray, List.set_cons_zero, List.set_cons_succ]) (hCont (vO, vA, vC) _ ⟨hHeld, HD.out, NA.out, NB.out, NP.out⟩)
    ·skip
     have hFX : Kd.F Kd.string _ (fun k_ => k_ ≠ g9) X1 x1.length x1 := Kd.F_mono (Kd.F_below (Kd.C_F Kd.heap_string HX.out.1) HD.out.bel) (fun k_ hk => by have := HD.out.ge; omega)
     refine Kd.N_lit_step k62 _ 62 ?hg (N' := 46) ?hd (xs := [(⟨x0, x1, x2, x3⟩ : S62)]) (inner := [.string x0, .slice X1 x1.length e1, .int .i64 x2, .int .i64 x3]) (ok := (fun k_ => k_ ≠ g9)) (okp := (fun k_ => k_ ≠ g9)) ?hr ?hp (fun _ hk => hk) (Nat.ne_of_gt (blk_lt HD.out.b9)) (Below.refl _ _) (Nat.le_refl _) (by simp) ?_; (case hd => rfl); (case hg => rfl); (case hr => first | (go_simp; done) | (go_simp; rfl)); (case hp => exact (Reps.c4 (k62_mkF _ _ (⟨x0, x1, x2, x3⟩ : S62) HX.out.2 hFX) (Reps.none _ _)))
     intro vC W1 hN hb hg_ hnew_
     have NB := mk_ (Kd.N_lower hN HD.out.bel.size)
     replace HD := mk_ (HD.out.step' hb)
     clear hN hb hg_ hnew_ hFX
     refine hK.out _ _ ⟨(blk_cell HD.out.b3 3).trans rfl, (blk_cell HD.out.b5 0).trans rfl, (blk_cell HD.out.b5 1).trans rfl, (blk_cell HD.out.b5 2).trans rfl, (blk_cell HD.out.b5 3).trans rfl⟩ (fun hHeld => ?_)
     clear hK K
     refine no_ (N := some 46) ?_
     refine on_ 0 (some 41) (fun K hK => ?_)
     refine Kd.N_lit_step k62 _ 62 ?hg (N' := 41) ?hd (xs := ([] : List S62)) (inner := []) (ok := fun k_ => k_ ≠ g9) (okp := fun k_ => k_ ≠ g9) ?hr ?hp (fun _ hk => hk) (Nat.ne_of_gt (blk_lt HD.out.b9)) (Below.refl _ _) (Nat.le_refl _) (by simp) ?_; (case hd => rfl); (case hg => rfl); (case hr => first | (go_simp; done) | (go_simp; rfl)); (case hp => exact (Reps.none _ _))
     intro vO W1 hN hb hg_ hnew_
     have NO := mk_ (own_ge hnew_ HD.out.le)
     replace NB := mk_ (Kd.N_elder' NB.out (Kd.N_base hN) hb)
     have NA := mk_ (Kd.N_lower hN HD.out.bel.size)
     replace HD := mk_ (HD.out.step' hb)
     clear hN hb hg_ hnew_
     refine hK.out _ _ ⟨(blk_cell HD.out.b3 3).trans rfl, (blk_cell HD.out.b5 0).trans rfl, (blk_cell HD.out.b5 1).trans rfl, (blk_cell HD.out.b5 2).trans rfl, (blk_cell HD.out.b5 3).trans rfl⟩ (fun hHeld => ?_)
     clear hK K
     refine no_ (N := some 41) ?_
     refine on_ 3 (some 44) (fun K hK => ?_)
     refine Kd.N_append_rows_step k62 (w0 := w) w.heap.size (by rfl) (.tmp 41) (.tmp 43) 26 62 (.agg #[(.string ⟨#[]⟩), (.slice none 0 0), (.int .i64 0), (.int .i64 0)]) 56 rfl Tryd.underlying26 info62 rfl (by decide) (by omega) vO ([] : List S62) fs _ _ _ (fun k_ => k_ ≠ g9) (fun k_ => k_ < w.heap.size) rfl rfl NA.out (Kd.F_below (Kd.C_F k62_heap HW.out.r3) HD.out.bel) (fun k_ hk => ⟨by have := HD.out.ge; omega, fun he => by have := Kd.N_base NA.out k_ he.symm; omega⟩) (fun k_ hk => by have := blk_lt HD.out.b9; omega) HD.out.bel HD.out.bel.size (by simp; omega) ?_
     intro vA W1 hN hb hg hat
     replace NB := mk_ (Kd.N_after NB.out hg hat)
     have NP := mk_ (own_next NO.out hat HD.out.le)
     replace HD := mk_ (HD.out.grown NO.out hg hb)
     replace NA := mk_ hN
     clear hN hb hg hat NO
     refine hK.out _ _ ⟨(blk_cell HD.out.b3 3).trans rfl, (blk_cell HD.out.b5 0).trans rfl, (blk_cell HD.out.b5 1).trans rfl, (blk_cell HD.out.b5 2).trans rfl, (blk_cell HD.out.b5 3).trans rfl⟩ (fun hHeld => ?_)
     clear hK K
     refine no_ (N := some 44) ?_
     exact norm_ (by simp only [putAll, Act.put, List.setIfInBounds_toArray, List.set_cons_zero, List.set_cons_succ]) (hCont (vO, vA, vC) _ ⟨hHeld, HD.out, NA.out, NB.out, NP.out⟩)
   rintro ⟨vO, vA, vC⟩ W7 ⟨hHeld, hD7, hA7, hB7, hP7⟩
   dsimp only at hA7 hB7 hP7
   obtain ⟨Ae, ce, rfl⟩ := Kd.N_slice hB7
   replace HD := mk_ hD7
   have NA := mk_ hA7
   have NB := mk_ hB7
   have NP := mk_ hP7
   clear hD7 hA7 hB7 hP7
   refine norm_ (a' := ?_) ?_ ?_
   rotate_left
   ·simp only [putAll, Act.put, List.setIfInBounds_toArray, List.set_cons_zero, List.set_cons_succ]
    rfl
   refine on_ 6 (some 47) (fun K hK => ?_)
   refine Kd.N_append_rows_step k62 (w0 := w) w.heap.size (by rfl) (.tmp 44) (.tmp 46) 26 62 (.agg #[(.string ⟨#[]⟩), (.slice none 0 0), (.int .i64 0), (.int .i64 0)]) 56 rfl Tryd.underlying26 info62 rfl (by decide) (by omega) vA fs [(⟨x0, x1, x2, x3⟩ : S62)] _ _ _ (fun k_ => k_ ≠ g9) (fun k_ => k_ ≠ g9 ∧ some k_ ≠ vA.ownBlock) rfl rfl NA.out (Kd.N_F NB.out) (fun _ hk => hk) (fun k_ hk => by have := blk_lt HD.out.b9; omega) HD.out.bel HD.out.bel.size (by simp; omega) ?_
   intro vR W8 hN hb hg hat
   replace HD := mk_ (HD.out.grown NP.out hg hb)
   replace NA := mk_ hN
   clear hN hb hg hat NB NP
   refine hK.out _ _ ⟨(blk_cell HD.out.b3 3).trans rfl, (blk_cell HD.out.b5 0).trans rfl, (blk_cell HD.out.b5 1).trans rfl, (blk_cell HD.out.b5 2).trans rfl, (blk_cell HD.out.b5 3).trans rfl⟩ (fun hHeld => ?_)
   clear hK K
   refine no_ (N := some 47) ?_
   refine pu_ 7 (some 48) ?_
   have y1 : W8.cell? ⟨g9, 3, none⟩ = some (.slice A3 fs.length c3) := (blk_cell HD.out.b9 3).trans rfl
   have y2 := blk_frozen HD.out.b9 3
   obtain ⟨gd, hgd⟩ : ∃ gd : List S62, fs ++ [(⟨x0, x1, x2, x3⟩ : S62)] = gd := ⟨_, rfl⟩
   rw [hgd] at NA HV HH
   obtain ⟨Ad, cd, rfl⟩ := Kd.N_slice NA.out
   refine on_ 8 (none) (fun K hK => ?_)
   refine skip_ (w1 := ?_) (by rfl) rfl ?_ ?_
   rotate_left
   ·go_simp
    rfl
   clear y1 y2
   replace HD := mk_ (HD.out.put (Nat.ne_of_lt N3.out) (Nat.ne_of_lt N4.out) (Nat.ne_of_lt N5.out) 3 (.slice Ad gd.length cd) (q' := #[.slice A0 ds.length c0, .slice A1 ts.length c1, .int .i64 id, .slice Ad gd.length cd]) rfl)
   replace NA := mk_ (Kd.N_far (p := ⟨g9, 3, none⟩) NA.out (fun _ hk => hk) (.slice Ad gd.length cd))
   refine hK.out _ _ ⟨(blk_cell HD.out.b3 3).trans rfl, (blk_cell HD.out.b5 0).trans rfl, (blk_cell HD.out.b5 1).trans rfl, (blk_cell HD.out.b5 2).trans rfl, (blk_cell HD.out.b5 3).trans rfl⟩ (fun hHeld => ?_)
   clear hK K
   refine done_ (by kernel_rfl) ?_
   generalize W8.setCell ⟨g9, 3, none⟩ (.slice Ad gd.length cd) = W9 at HD NA ⊢
   clear hHeld
   obtain ⟨Aq, cq, eq, hq1, hq2⟩ := Kd.N_V (base' := 0) NA.out
   injection eq with eq1 eq2 eq3
   subst eq1 eq3
   have NV := mk_ (And.intro (Kd.F_now hq2) hq1)
   clear hq1 hq2 eq2 NA
   have h := HH.out
   clear HH HNM
   obtain ⟨_, _, _, _, -, -, -, -⟩ := hb4_ ⟨HD.out.b9⟩; obtain ⟨_, _, _, _, _, _, -, -, -, -, -, -⟩ := hb6_ ⟨HD.out.b4⟩
   have T1 : True := trivial
   have T2 : True := trivial
   by_cases cv : v = false
   ·subst cv
    rw [if_pos rfl] at h
    obtain rfl := Option.some.inj h
    clear h
    go_wp2_with ((go_at_call 13; refine (lc_light k id f0 f1 f3 f4 ⟨(HW.out.below HD.out.bel).r0, HW.out.l0, (HW.out.below HD.out.bel).r1, HW.out.l1, NV.out.1, NV.out.2⟩ (HF.out.below HD.out.bel) HV.out).mono ?_; rintro e w10 ⟨rfl, hb⟩; replace NV := mk_ (And.intro (Kd.C_below NV.out.1 hb) NV.out.2); replace HD := mk_ (HD.out.step' hb); clear hb; obtain ⟨_, _, _, _, -, -, -, -⟩ := hb4_ ⟨HD.out.b3⟩; obtain ⟨_, _, _, _, _, _, -, -, -, -, -, -⟩ := hb6_ ⟨HD.out.b4⟩))
    go_ret
    exact ⟨rfl, HD.out.bel⟩
   rw [if_neg cv] at h
   obtain rfl : v = true := by simpa using cv
   clear cv
   obtain ⟨⟨b1, c1_⟩, hX, h⟩ := Option.bind_eq_some_iff.1 h
   obtain ⟨Y, hY, h⟩ := Option.bind_eq_some_iff.1 h
   by_cases cc : (b1, c1_) = Y
   case neg => rw [if_neg cc] at h; cases h
   rw [if_pos cc] at h
   subst cc
   obtain rfl := Option.some.inj h
   have HX1 := mk_ hX
   have HY1 := mk_ hY
   clear h hX hY
   go_wp2_with (first | (go_at_call 13; refine (lc_light k id f0 f1 f3 f4 ⟨(HW.out.below HD.out.bel).r0, HW.out.l0, (HW.out.below HD.out.bel).r1, HW.out.l1, NV.out.1, NV.out.2⟩ (HF.out.below HD.out.bel) HV.out).mono ?_; rintro e w10 ⟨rfl, hb⟩; replace NV := mk_ (And.intro (Kd.C_below NV.out.1 hb) NV.out.2); replace HD := mk_ (HD.out.step' hb); clear hb; obtain ⟨_, _, _, _, -, -, -, -⟩ := hb4_ ⟨HD.out.b3⟩; obtain ⟨_, _, _, _, _, _, -, -, -, -, -, -⟩ := hb6_ ⟨HD.out.b4⟩) | (clear T1; go_at_call 18; refine (lc_true k id f0 f1 f3 f4 (HW.out.below HD.out.bel) (HF.out.below HD.out.bel) (tb_on HTB.out HD.out.bel) HX1.out).mono ?_; rintro e w11 ⟨rfl, hb⟩; replace NV := mk_ (And.intro (Kd.C_below NV.out.1 hb) NV.out.2); replace HD := mk_ (HD.out.step' hb); clear hb; obtain ⟨_, _, _, _, -, -, -, -⟩ := hb4_ ⟨HD.out.b9⟩; obtain ⟨_, _, _, _, _, _, -, -, -, -, -, -⟩ := hb6_ ⟨HD.out.b4⟩) | (clear T2; go_at_call 18; refine (lc_true k id f0 f1 f3 f4 ⟨(HW.out.below HD.out.bel).r0, HW.out.l0, (HW.out.below HD.out.bel).r1, HW.out.l1, NV.out.1, NV.out.2⟩ (HF.out.below HD.out.bel) (tb_on HTB.out HD.out.bel) HY1.out).mono ?_; rintro e w12 ⟨rfl, hb⟩; replace HD := mk_ (HD.out.step' hb); clear hb))
   go_ret
   exact ⟨by simp, HD.out.bel⟩

/-- THE ONE PURE STATEMENT of pentaglotlaw26_EvaluateIgnores. -/
def pentaglotlaw26_EvaluateIgnores.Pure : Prop := ∀ (p0 : S28) (p1 : S32) (p2 : S62), wf28 p0 → wf32 p1 → wf62 p2 → bulk28 p0 + bulk32 p1 + bulk62 p2 ≤ 1048576 → ∃ k, pentaglotlaw26_EvaluateIgnores.f k p0.f0.f0 p0.f0.f1 p0.f0.f2 p0.f1 p1.f0 p1.f1 p1.f2 p1.f3 p1.f4 p1.f5 p2.f0 p2.f1 p2.f2 p2.f3 = some true

end Go.Proofs.YtolpckflofjfhaaDoor.P
