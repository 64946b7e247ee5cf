-- printed by wip/tools/xprint.py
import Derived.Test.YtolpckflofjfhaaDoorPx0
import Derived.Test.YtolpckflofjfhaaDoorPx12
import Derived.Test.YtolpckflofjfhaaDoorPx24
import Derived.Test.YtolpckflofjfhaaDoorPx27
namespace Go.Proofs.YtolpckflofjfhaaDoor.P
open Go.RowKit Go.Proofs.YtolpckflofjfhaaDoorW.PrintWords Go.Proofs.YtolpckflofjfhaaDoorW.PrintLast Go.Proofs.YtolpckflofjfhaaDoorW.PrintMore
attribute [local go_sem] max2_int min2_int max_two min_two max_three min_three max_four min_four
set_option linter.unusedVariables false
set_option maxHeartbeats 8000000
set_option maxRecDepth 100000
set_option linter.unusedSimpArgs false

-- leans on 12 13 20 26
/-- A world's rows. -/
structure WM (w : World) (A0 : Option Addr) (c0 : Nat) (ds : List S73) (A1 : Option Addr) (c1 : Nat) (ts : List Int) (A3 : Option Addr) (c3 : Nat) (fs : List S62) : Prop where
 r0 : Kd.C k73 w A0 ds.length ds
 l0 : ds.length ≤ c0
 r1 : Kd.C (Kd.int .i64) w A1 ts.length ts
 l1 : ts.length ≤ c1
 r3 : Kd.C k62 w A3 fs.length fs
 l3 : fs.length ≤ c3
theorem WM.below {w w' : World} {A0 : Option Addr} {c0 : Nat} {ds : List S73} {A1 : Option Addr} {c1 : Nat} {ts : List Int} {A3 : Option Addr} {c3 : Nat} {fs : List S62} (h : WM w A0 c0 ds A1 c1 ts A3 c3 fs) (hb : Below w.heap.size w w') : WM w' A0 c0 ds A1 c1 ts A3 c3 fs :=
 ⟨Kd.C_below h.r0 hb, h.l0, Kd.C_below h.r1 hb, h.l1, Kd.C_below h.r3 hb, h.l3⟩
/-- A formula's rows. -/
structure FM (w : World) (A2 : Option Addr) (c2 : Nat) (l2 : List S92) (A5 : Option Addr) (c5 : Nat) (l5 : List S32) : Prop where
 r2 : Kd.C k92 w A2 l2.length l2
 l2 : l2.length ≤ c2
 r5 : Kd.C k32 w A5 l5.length l5
 l5 : l5.length ≤ c5
theorem FM.below {w w' : World} {A2 : Option Addr} {c2 : Nat} {l2 : List S92} {A5 : Option Addr} {c5 : Nat} {l5 : List S32} (h : FM w A2 c2 l2 A5 c5 l5) (hb : Below w.heap.size w w') : FM w' A2 c2 l2 A5 c5 l5 :=
 ⟨Kd.C_below h.r2 hb, h.l2, Kd.C_below h.r5 hb, h.l5⟩
section contracts
variable (k : Nat) {A0 : Option Addr} {c0 : Nat} {ds : List S73} {A1 : Option Addr} {c1 : Nat} {ts : List Int} (id : Int) {A3 : Option Addr} {c3 : Nat} {fs : List S62} (f0 : Int) (f1 : ByteArray) {F2 : Option Addr} {p2 : Nat} {f2 : List S92} (f3 f4 : Int) {F5 : Option Addr} {p5 : Nat} {f5 : List S32}
theorem lc_light {w : World} {r : Bool} (hw : WM w A0 c0 ds A1 c1 ts A3 c3 fs) (hf : FM w F2 p2 f2 F5 p5 f5) (h : pentaglotref26_Light.f k ds ts id fs f0 f1 f2 f3 f4 f5 = some r) : Calls Tryd.prog 13 #[.agg #[.slice A0 ds.length c0, .slice A1 ts.length c1, .int .i64 id, .slice A3 fs.length c3], .agg #[.int .i64 f0, .string f1, .slice F2 f2.length p2, .int .i64 f3, .int .i64 f4, .slice F5 f5.length p5]] w fun e w' => e = .returned (.bool r) ∧ Below w.heap.size w w' :=
 pentaglotref26_Light.calls k _ _ ds _ _ ts id _ _ fs f0 f1 _ _ f2 f3 f4 _ _ f5 r w hw.r0 hw.l0 hw.r1 hw.l1 hw.r3 hw.l3 hf.r2 hf.l2 hf.r5 hf.l5 h
theorem lc_at (co m : Int) {w : World} {r : Bool × Bool} (hw : WM w A0 c0 ds A1 c1 ts A3 c3 fs) (hf : FM w F2 p2 f2 F5 p5 f5) (htb : Tb w) (h : pentaglotlaw26_at.f k ds ts id fs f0 f1 f2 f3 f4 f5 co m = some r) : Calls Tryd.prog 20 #[.agg #[.slice A0 ds.length c0, .slice A1 ts.length c1, .int .i64 id, .slice A3 fs.length c3], .agg #[.int .i64 f0, .string f1, .slice F2 f2.length p2, .int .i64 f3, .int .i64 f4, .slice F5 f5.length p5], .int .i64 co, .int .i64 m] w fun e w' => e = .returned (.tuple #[.bool r.1, .bool r.2]) ∧ Below w.heap.size w w' :=
 pentaglotlaw26_at.calls k _ _ ds _ _ ts id _ _ fs f0 f1 _ _ f2 f3 f4 _ _ f5 co m r.1 r.2 w hw.r0 hw.l0 hw.r1 hw.l1 hw.r3 hw.l3 hf.r2 hf.l2 hf.r5 hf.l5 h htb
theorem lc_kid (o : Int) {w : World} (hf : FM w F2 p2 f2 F5 p5 f5) : Calls Tryd.prog 26 #[.int .i64 o, .agg #[.int .i64 f0, .string f1, .slice F2 f2.length p2, .int .i64 f3, .int .i64 f4, .slice F5 f5.length p5]] w fun e w' => ∃ B2 d2 B5 d5, e = .returned (.agg #[.int .i64 o, .string ⟨#[]⟩, .slice B2 ([] : List S92).length d2, .int .i64 0, .int .i64 0, .slice B5 [(⟨f0, f1, f2, f3, f4, f5⟩ : S32)].length d5]) ∧ FM w' B2 d2 [] B5 d5 [⟨f0, f1, f2, f3, f4, f5⟩] ∧ Below w.heap.size w w' := by
 refine (pentaglotlaw26_kid.calls o f0 f1 (fun k_ => k_ < w.heap.size) _ _ f2 f3 f4 (fun k_ => k_ < w.heap.size) _ _ f5 o ⟨#[]⟩ [] 0 0 [⟨f0, f1, f2, f3, f4, f5⟩] w (Kd.V_mk hf.l2 (Kd.C_F k92_heap hf.r2)) (Kd.V_mk hf.l5 (Kd.C_F k32_heap hf.r5)) rfl).mono ?_
 rintro e w' ⟨v2, v5, rfl, h2, h5, hb⟩
 obtain ⟨B2, d2, rfl, l2, g2⟩ := Kd.R_V (base' := 0) h2
 obtain ⟨B5, d5, rfl, l5, g5⟩ := Kd.N_V (base' := 0) h5
 exact ⟨B2, d2, B5, d5, rfl, ⟨Kd.F_now g2, l2, Kd.F_now g5, l5⟩, hb⟩
end contracts
/-- A row written down: it reads as what it says. -/
theorem C_lit {α : Type} {d : Kd α} {W : World} {xs : List α} {inner : List Value} {e : Nat} (hrep : Reps (d.K (W.alloc (.cells inner.toArray e))) d.sz xs inner) (hm : xs.length ≤ 9223372036854775807) : d.C (W.alloc (.cells inner.toArray e)) (some ⟨W.heap.size, 0, none⟩) xs.length xs := by
 refine ⟨rfl, hm, fun _ => ⟨_, rfl, fun j p hp => ⟨(inner.drop (j * d.sz)).take d.sz, d.K_len (hrep.2 j p hp), hrep.2 j p hp, fun i u hu => ?_⟩⟩⟩
 have h1 : inner[j * d.sz + i]? = some u := by
  rw [List.getElem?_take] at hu
  split at hu
  ·rwa [List.getElem?_drop] at hu
  ·cases hu
 have e1 : (⟨W.heap.size, 0, none⟩ : Addr).add (j * d.sz + i) = ⟨W.heap.size, j * d.sz + i, none⟩ := by
  rw [Addr.add, Nat.zero_add]
  split
  ·rename_i e0; rw [e0]
  ·rfl
 rw [e1, blk_cell (heap_alloc_new W _) (j * d.sz + i), List.getElem?_toArray]
 exact h1
theorem C_none92 (w : World) : Kd.C k92 w none ([] : List S92).length [] := ⟨rfl, by simp, fun h => absurd h (by simp)⟩
/-- The three boxes. -/
structure B3 (w : World) (g5 g6 g7 : Nat) (u v x : Array Value) : Prop where
 b5 : Aside0 (w.heap[g5]? = some (.cells u 28 (0, 0)))
 b6 : Aside0 (w.heap[g6]? = some (.cells v 32 (0, 0)))
 b7 : Aside0 (w.heap[g7]? = some (.cells x 32 (0, 0)))
theorem B3.below {w w' : World} {g5 g6 g7 : Nat} {u v x : Array Value} (h : B3 w g5 g6 g7 u v x) (hb : Below w.heap.size w w') : B3 w' g5 g6 g7 u v x := ⟨⟨blk_below h.b5.out hb⟩, ⟨blk_below h.b6.out hb⟩, ⟨blk_below h.b7.out hb⟩⟩
def ConnOk (X Y N A O T : Bool × Bool) : Bool := !(X.2 && (Y.2 && (N.2 && (A.2 && (O.2 && T.2))))) || (N.1 == !X.1 && (A.1 == (X.1 && Y.1) && (O.1 == (X.1 || Y.1) && T.1 == (!X.1 || Y.1))))
def pentaglotlaw26_EvaluateConnectives.f (k : Nat) (ds : List S73) (ts : List Int) (id : Int) (fs : List S62) (f0 : Int) (f1 : ByteArray) (f2 : List S92) (f3 f4 : Int) (f5 : List S32) (g0 : Int) (g1 : ByteArray) (g2 : List S92) (g3 g4 : Int) (g5 : List S32) (co m : Int) : Option Bool :=
 (pentaglotref26_Light.f k ds ts id fs f0 f1 f2 f3 f4 f5).bind fun v => if v = false then some true else (pentaglotref26_Light.f k ds ts id fs g0 g1 g2 g3 g4 g5).bind fun u => if u = false then some true else
 (pentaglotlaw26_at.f k ds ts id fs f0 f1 f2 f3 f4 f5 co m).bind fun X => (pentaglotlaw26_at.f k ds ts id fs g0 g1 g2 g3 g4 g5 co m).bind fun Y =>
 (pentaglotlaw26_at.f k ds ts id fs 4 ⟨#[]⟩ [] 0 0 [⟨f0, f1, f2, f3, f4, f5⟩] co m).bind fun N => (pentaglotlaw26_at.f k ds ts id fs 5 ⟨#[]⟩ [] 0 0 [⟨f0, f1, f2, f3, f4, f5⟩, ⟨g0, g1, g2, g3, g4, g5⟩] co m).bind fun A =>
 (pentaglotlaw26_at.f k ds ts id fs 6 ⟨#[]⟩ [] 0 0 [⟨f0, f1, f2, f3, f4, f5⟩, ⟨g0, g1, g2, g3, g4, g5⟩] co m).bind fun O => (pentaglotlaw26_at.f k ds ts id fs 7 ⟨#[]⟩ [] 0 0 [⟨f0, f1, f2, f3, f4, f5⟩, ⟨g0, g1, g2, g3, g4, g5⟩] co m).bind fun T =>
 if ConnOk X Y N A O T = true then some true else none
theorem pentaglotlaw26_EvaluateConnectives.calls (k : Nat) (A0 : Option Addr) (c0 : Nat) (ds : List S73) (A1 : Option Addr) (c1 : Nat) (ts : List Int) (id : Int) (A3 : Option Addr) (c3 : Nat) (fs : List S62) (f0 : Int) (f1 : ByteArray) (F2 : Option Addr) (p2 : Nat) (f2 : List S92) (f3 f4 : Int) (F5 : Option Addr) (p5 : Nat) (f5 : List S32) (g0 : Int) (g1 : ByteArray) (G2 : Option Addr) (q2 : Nat) (g2 : List S92) (g3 g4 : Int) (G5 : Option Addr) (q5 : Nat) (g5 : List S32) (co m : Int) (r : Bool) (w : World)
  (hr0 : Kd.C k73 w A0 ds.length ds) (hc0 : ds.length ≤ c0) (hr1 : Kd.C (Kd.int .i64) w A1 ts.length ts) (hc1 : ts.length ≤ c1) (hr3 : Kd.C k62 w A3 fs.length fs) (hc3 : fs.length ≤ c3) (hf2 : Kd.C k92 w F2 f2.length f2) (hp2 : f2.length ≤ p2) (hf5 : Kd.C k32 w F5 f5.length f5) (hp5 : f5.length ≤ p5) (hg2 : Kd.C k92 w G2 g2.length g2) (hq2 : g2.length ≤ q2) (hg5 : Kd.C k32 w G5 g5.length g5) (hq5 : g5.length ≤ q5)
  (h : pentaglotlaw26_EvaluateConnectives.f k ds ts id fs f0 f1 f2 f3 f4 f5 g0 g1 g2 g3 g4 g5 co m = some r) (htb : Tb w) : Calls Tryd.prog 6 #[.agg #[.slice A0 ds.length c0, .slice A1 ts.length c1, .int .i64 id, .slice A3 fs.length c3], .agg #[.int .i64 f0, .string f1, .slice F2 f2.length p2, .int .i64 f3, .int .i64 f4, .slice F5 f5.length p5], .agg #[.int .i64 g0, .string g1, .slice G2 g2.length q2, .int .i64 g3, .int .i64 g4, .slice G5 g5.length q5], .int .i64 co, .int .i64 m] w fun e w' => e = .returned (.bool r) ∧ Below w.heap.size w w' := by
 have HW : Aside0 (WM w A0 c0 ds A1 c1 ts A3 c3 fs) := ⟨⟨hr0, hc0, hr1, hc1, hr3, hc3⟩⟩
 have HF : Aside0 (FM w F2 p2 f2 F5 p5 f5) := ⟨⟨hf2, hp2, hf5, hp5⟩⟩
 have HG : Aside0 (FM w G2 q2 g2 G5 q5 g5) := ⟨⟨hg2, hq2, hg5, hq5⟩⟩
 have HTB := mk_ htb
 have HB0 := mk_ (Below.refl w.heap.size w)
 clear hr0 hc0 hr1 hc1 hr3 hc3 hf2 hp2 hf5 hp5 hg2 hq2 hg5 hq5 htb
 unfold pentaglotlaw26_EvaluateConnectives.f at h
 obtain ⟨v, hv, h⟩ := Option.bind_eq_some_iff.1 h
 have HV := mk_ hv
 clear hv
 have hu28 := Tryd.underlying28
 have hu32 := Tryd.underlying32
 have hu30 := Tryd.underlying30
 have T1 : True := trivial
 by_cases cv : v = false
 ·subst cv
  rw [if_pos rfl] at h
  obtain rfl := Option.some.inj h
  go_enter Tryd.func6, Tryd.ntmps6
  go_wp2_with (first | ((with_reducible refine gate_dst (N := 5) rfl ?_); refine bx_ 5 #[.slice A0 ds.length c0, .slice A1 ts.length c1, .int .i64 id, .slice A3 fs.length c3] 28 ?_; intro g5_ hg w1 hbox hb; have BK5 := mk_ hbox; have HB1 := mk_ (below_step HB0.out hb); clear hb hbox hg HB0) | ((with_reducible refine gate_dst (N := 6) rfl ?_); refine bx_ 6 #[.int .i64 f0, .string f1, .slice F2 f2.length p2, .int .i64 f3, .int .i64 f4, .slice F5 f5.length p5] 32 ?_; intro g6_ hg w2 hbox hb; have BJ5 := mk_ (blk_below BK5.out hb); have BK6 := mk_ hbox; have HB2 := mk_ (below_step HB1.out hb); clear hb hbox hg HB1 BK5) | ((with_reducible refine gate_dst (N := 7) rfl ?_); refine bx_ 7 #[.int .i64 g0, .string g1, .slice G2 g2.length q2, .int .i64 g3, .int .i64 g4, .slice G5 g5.length q5] 32 ?_; intro g7_ hg w3 hbox hb; have BJ6 := mk_ (blk_below BK6.out hb); have BI5 := mk_ (blk_below BJ5.out hb); have BK7 := mk_ hbox; have HB3 := mk_ (below_step HB2.out hb); clear hb hbox hg HB2 BJ5 BK6) | (go_at_call 12; refine (pentaglotlaw26_awake.calls k true _ rfl (tb_on HTB.out HB3.out)).mono ?_; rintro e w4 ⟨rfl, hb⟩; have HB4 := mk_ (below_step HB3.out hb); have BX : Aside0 (B3 w4 g5_ g6_ g7_ _ _ _) := ⟨⟨⟨blk_below BI5.out hb⟩, ⟨blk_below BJ6.out hb⟩, ⟨blk_below BK7.out hb⟩⟩⟩; clear hb HB3 BI5 BJ6 BK7; obtain ⟨_, _, _, _, -, -, -, -⟩ := hb4_ BX.out.b5; obtain ⟨_, _, _, _, _, _, -, -, -, -, -, -⟩ := hb6_ BX.out.b6) | (clear T1; go_at_call 13; refine (lc_light k id f0 f1 f3 f4 (HW.out.below HB4.out) (HF.out.below HB4.out) HV.out).mono ?_; rintro e w5 ⟨rfl, hb⟩; have HB5 := mk_ (below_step HB4.out hb); replace BX := mk_ (BX.out.below hb); clear hb HB4; obtain ⟨_, _, _, _, -, -, -, -⟩ := hb4_ BX.out.b5; obtain ⟨_, _, _, _, _, _, -, -, -, -, -, -⟩ := hb6_ BX.out.b7))
  go_ret
  exact ⟨rfl, HB5.out⟩
 rw [if_neg cv] at h
 obtain rfl : v = true := by simpa using cv
 clear cv
 obtain ⟨u, hu, h⟩ := Option.bind_eq_some_iff.1 h
 have HU := mk_ hu
 clear hu
 have T2 : True := trivial
 by_cases cu : u = false
 ·subst cu
  rw [if_pos rfl] at h
  obtain rfl := Option.some.inj h
  go_enter Tryd.func6, Tryd.ntmps6
  go_wp2_with (first | ((with_reducible refine gate_dst (N := 5) rfl ?_); refine bx_ 5 #[.slice A0 ds.length c0, .slice A1 ts.length c1, .int .i64 id, .slice A3 fs.length c3] 28 ?_; intro g5_ hg w1 hbox hb; have BK5 := mk_ hbox; have HB1 := mk_ (below_step HB0.out hb); clear hb hbox hg HB0) | ((with_reducible refine gate_dst (N := 6) rfl ?_); refine bx_ 6 #[.int .i64 f0, .string f1, .slice F2 f2.length p2, .int .i64 f3, .int .i64 f4, .slice F5 f5.length p5] 32 ?_; intro g6_ hg w2 hbox hb; have BJ5 := mk_ (blk_below BK5.out hb); have BK6 := mk_ hbox; have HB2 := mk_ (below_step HB1.out hb); clear hb hbox hg HB1 BK5) | ((with_reducible refine gate_dst (N := 7) rfl ?_); refine bx_ 7 #[.int .i64 g0, .string g1, .slice G2 g2.length q2, .int .i64 g3, .int .i64 g4, .slice G5 g5.length q5] 32 ?_; intro g7_ hg w3 hbox hb; have BJ6 := mk_ (blk_below BK6.out hb); have BI5 := mk_ (blk_below BJ5.out hb); have BK7 := mk_ hbox; have HB3 := mk_ (below_step HB2.out hb); clear hb hbox hg HB2 BJ5 BK6) | (go_at_call 12; refine (pentaglotlaw26_awake.calls k true _ rfl (tb_on HTB.out HB3.out)).mono ?_; rintro e w4 ⟨rfl, hb⟩; have HB4 := mk_ (below_step HB3.out hb); have BX : Aside0 (B3 w4 g5_ g6_ g7_ _ _ _) := ⟨⟨⟨blk_below BI5.out hb⟩, ⟨blk_below BJ6.out hb⟩, ⟨blk_below BK7.out hb⟩⟩⟩; clear hb HB3 BI5 BJ6 BK7; obtain ⟨_, _, _, _, -, -, -, -⟩ := hb4_ BX.out.b5; obtain ⟨_, _, _, _, _, _, -, -, -, -, -, -⟩ := hb6_ BX.out.b6) | (clear T1; go_at_call 13; refine (lc_light k id f0 f1 f3 f4 (HW.out.below HB4.out) (HF.out.below HB4.out) HV.out).mono ?_; rintro e w5 ⟨rfl, hb⟩; have HB5 := mk_ (below_step HB4.out hb); replace BX := mk_ (BX.out.below hb); clear hb HB4; obtain ⟨_, _, _, _, -, -, -, -⟩ := hb4_ BX.out.b5; obtain ⟨_, _, _, _, _, _, -, -, -, -, -, -⟩ := hb6_ BX.out.b7) | (clear T2; go_at_call 13; refine (lc_light k id g0 g1 g3 g4 (HW.out.below HB5.out) (HG.out.below HB5.out) HU.out).mono ?_; rintro e w6 ⟨rfl, hb⟩; have HB6 := mk_ (below_step HB5.out hb); replace BX := mk_ (BX.out.below hb); clear hb HB5; obtain ⟨_, _, _, _, -, -, -, -⟩ := hb4_ BX.out.b5; obtain ⟨_, _, _, _, _, _, -, -, -, -, -, -⟩ := hb6_ BX.out.b6))
  go_ret
  exact ⟨rfl, HB6.out⟩
 rw [if_neg cu] at h
 obtain rfl : u = true := by simpa using cu
 clear cu
 obtain ⟨⟨x1, x2⟩, hx, h⟩ := Option.bind_eq_some_iff.1 h
 have HX_ := mk_ hx
 clear hx
 obtain ⟨⟨y1, y2⟩, hy, h⟩ := Option.bind_eq_some_iff.1 h
 have HY_ := mk_ hy
 clear hy
 obtain ⟨⟨n1, n2⟩, hn, h⟩ := Option.bind_eq_some_iff.1 h
 have HN_ := mk_ hn
 clear hn
 obtain ⟨⟨a1, a2⟩, ha, h⟩ := Option.bind_eq_some_iff.1 h
 have HA_ := mk_ ha
 clear ha
 obtain ⟨⟨o1, o2⟩, ho, h⟩ := Option.bind_eq_some_iff.1 h
 have HO_ := mk_ ho
 clear ho
 obtain ⟨⟨t1, t2⟩, ht, h⟩ := Option.bind_eq_some_iff.1 h
 have HT_ := mk_ ht
 clear ht
 by_cases cc : ConnOk (x1, x2) (y1, y2) (n1, n2) (a1, a2) (o1, o2) (t1, t2) = true
 case neg => rw [if_neg cc] at h; cases h
 rw [if_pos cc] at h
 obtain rfl := Option.some.inj h
 have HCC := mk_ cc
 clear cc h
 have T3 : True := trivial
 have T4 : True := trivial
 go_enter Tryd.func6, Tryd.ntmps6
 go_upto_region 8 with (first | ((with_reducible refine gate_dst (N := 5) rfl ?_); refine bx_ 5 #[.slice A0 ds.length c0, .slice A1 ts.length c1, .int .i64 id, .slice A3 fs.length c3] 28 ?_; intro g5_ hg w1 hbox hb; have BK5 := mk_ hbox; have HB1 := mk_ (below_step HB0.out hb); clear hb hbox hg HB0) | ((with_reducible refine gate_dst (N := 6) rfl ?_); refine bx_ 6 #[.int .i64 f0, .string f1, .slice F2 f2.length p2, .int .i64 f3, .int .i64 f4, .slice F5 f5.length p5] 32 ?_; intro g6_ hg w2 hbox hb; have BJ5 := mk_ (blk_below BK5.out hb); have BK6 := mk_ hbox; have HB2 := mk_ (below_step HB1.out hb); clear hb hbox hg HB1 BK5) | ((with_reducible refine gate_dst (N := 7) rfl ?_); refine bx_ 7 #[.int .i64 g0, .string g1, .slice G2 g2.length q2, .int .i64 g3, .int .i64 g4, .slice G5 g5.length q5] 32 ?_; intro g7_ hg w3 hbox hb; have BJ6 := mk_ (blk_below BK6.out hb); have BI5 := mk_ (blk_below BJ5.out hb); have BK7 := mk_ hbox; have HB3 := mk_ (below_step HB2.out hb); clear hb hbox hg HB2 BJ5 BK6) | (go_at_call 12; refine (pentaglotlaw26_awake.calls k true _ rfl (tb_on HTB.out HB3.out)).mono ?_; rintro e w4 ⟨rfl, hb⟩; have HB4 := mk_ (below_step HB3.out hb); have BX : Aside0 (B3 w4 g5_ g6_ g7_ _ _ _) := ⟨⟨⟨blk_below BI5.out hb⟩, ⟨blk_below BJ6.out hb⟩, ⟨blk_below BK7.out hb⟩⟩⟩; clear hb HB3 BI5 BJ6 BK7; obtain ⟨_, _, _, _, -, -, -, -⟩ := hb4_ BX.out.b5; obtain ⟨_, _, _, _, _, _, -, -, -, -, -, -⟩ := hb6_ BX.out.b6) | (clear T1; go_at_call 13; refine (lc_light k id f0 f1 f3 f4 (HW.out.below HB4.out) (HF.out.below HB4.out) HV.out).mono ?_; rintro e w5 ⟨rfl, hb⟩; have HB5 := mk_ (below_step HB4.out hb); replace BX := mk_ (BX.out.below hb); clear hb HB4; obtain ⟨_, _, _, _, -, -, -, -⟩ := hb4_ BX.out.b5; obtain ⟨_, _, _, _, _, _, -, -, -, -, -, -⟩ := hb6_ BX.out.b7) | (clear T2; go_at_call 13; refine (lc_light k id g0 g1 g3 g4 (HW.out.below HB5.out) (HG.out.below HB5.out) HU.out).mono ?_; rintro e w6 ⟨rfl, hb⟩; have HB6 := mk_ (below_step HB5.out hb); replace BX := mk_ (BX.out.below hb); clear hb HB5; obtain ⟨_, _, _, _, -, -, -, -⟩ := hb4_ BX.out.b5; obtain ⟨_, _, _, _, _, _, -, -, -, -, -, -⟩ := hb6_ BX.out.b6) | (clear T3; go_at_call 20; refine (lc_at k id f0 f1 f3 f4 co m (HW.out.below HB6.out) (HF.out.below HB6.out) (tb_on HTB.out HB6.out) HX_.out).mono ?_; rintro e w7 ⟨rfl, hb⟩; have HB7 := mk_ (below_step HB6.out hb); replace BX := mk_ (BX.out.below hb); clear hb HB6; obtain ⟨_, _, _, _, -, -, -, -⟩ := hb4_ BX.out.b5; obtain ⟨_, _, _, _, _, _, -, -, -, -, -, -⟩ := hb6_ BX.out.b7) | (clear T4; go_at_call 20; refine (lc_at k id g0 g1 g3 g4 co m (HW.out.below HB7.out) (HG.out.below HB7.out) (tb_on HTB.out HB7.out) HY_.out).mono ?_; rintro e w8 ⟨rfl, hb⟩; have HB8 := mk_ (below_step HB7.out hb); replace BX := mk_ (BX.out.below hb); clear hb HB7; obtain ⟨_, _, _, _, _, _, -, -, -, -, -, -⟩ := hb6_ BX.out.b6; obtain ⟨_, _, _, _, _, _, -, -, -, -, -, -⟩ := hb6_ BX.out.b7) | ((with_reducible refine gate_dst (N := 54) rfl ?_); refine event_run rfl (v := .slice (some ⟨w8.heap.size, 0, none⟩) 2 2) (w1 := w8.alloc (.cells #[.int .i64 f0, .string f1, .slice F2 f2.length p2, .int .i64 f3, .int .i64 f4, .slice F5 f5.length p5, .int .i64 g0, .string g1, .slice G2 g2.length q2, .int .i64 g3, .int .i64 g4, .slice G5 g5.length q5] 32)) (by first | (go_simp; done) | (go_simp; rfl)) ?_))
 have HBO : Aside0 (Kd.C k32 (w8.alloc (.cells #[.int .i64 f0, .string f1, .slice F2 f2.length p2, .int .i64 f3, .int .i64 f4, .slice F5 f5.length p5, .int .i64 g0, .string g1, .slice G2 g2.length q2, .int .i64 g3, .int .i64 g4, .slice G5 g5.length q5] 32)) (some ⟨w8.heap.size, 0, none⟩) [(⟨f0, f1, f2, f3, f4, f5⟩ : S32), ⟨g0, g1, g2, g3, g4, g5⟩].length [⟨f0, f1, f2, f3, f4, f5⟩, ⟨g0, g1, g2, g3, g4, g5⟩]) := by
  have hb9 := below_alloc HB8.out (.cells #[.int .i64 f0, .string f1, .slice F2 f2.length p2, .int .i64 f3, .int .i64 f4, .slice F5 f5.length p5, .int .i64 g0, .string g1, .slice G2 g2.length q2, .int .i64 g3, .int .i64 g4, .slice G5 g5.length q5] 32)
  have F9 := HF.out.below hb9
  have G9 := HG.out.below hb9
  exact ⟨C_lit (inner := [.int .i64 f0, .string f1, .slice F2 f2.length p2, .int .i64 f3, .int .i64 f4, .slice F5 f5.length p5, .int .i64 g0, .string g1, .slice G2 g2.length q2, .int .i64 g3, .int .i64 g4, .slice G5 g5.length q5]) (Reps.c6 (k32_mk _ (⟨f0, f1, f2, f3, f4, f5⟩ : S32) F9.l2 F9.r2 F9.l5 F9.r5) (Reps.c6 (k32_mk _ (⟨g0, g1, g2, g3, g4, g5⟩ : S32) G9.l2 G9.r2 G9.l5 G9.r5) (Reps.none _ _))) (by simp)⟩
 have HB9 := mk_ (below_alloc HB8.out (.cells #[.int .i64 f0, .string f1, .slice F2 f2.length p2, .int .i64 f3, .int .i64 f4, .slice F5 f5.length p5, .int .i64 g0, .string g1, .slice G2 g2.length q2, .int .i64 g3, .int .i64 g4, .slice G5 g5.length q5] 32))
 replace BX := mk_ (BX.out.below (below_alloc (Below.refl _ _) (.cells #[.int .i64 f0, .string f1, .slice F2 f2.length p2, .int .i64 f3, .int .i64 f4, .slice F5 f5.length p5, .int .i64 g0, .string g1, .slice G2 g2.length q2, .int .i64 g3, .int .i64 g4, .slice G5 g5.length q5] 32)))
 obtain ⟨gn, hgn⟩ : ∃ gn, gn = w8.heap.size := ⟨_, rfl⟩
 rw [← hgn] at HBO ⊢
 clear HB8 hgn
 generalize w8.alloc (.cells #[.int .i64 f0, .string f1, .slice F2 f2.length p2, .int .i64 f3, .int .i64 f4, .slice F5 f5.length p5, .int .i64 g0, .string g1, .slice G2 g2.length q2, .int .i64 g3, .int .i64 g4, .slice G5 g5.length q5] 32) = w9 at HBO HB9 BX ⊢
 obtain ⟨k0, k1, k2, k3, -, -, -, -⟩ := hb4_ BX.out.b5
 obtain ⟨m0, m1, m2, m3, m4, m5, -, -, -, -, -, -⟩ := hb6_ BX.out.b6
 refine start_ (n := 11) (S := fun w' => w'.cell? ⟨g5_, 0, none⟩ = some (.slice A0 ds.length c0) ∧ w'.cell? ⟨g5_, 1, none⟩ = some (.slice A1 ts.length c1) ∧ w'.cell? ⟨g5_, 2, none⟩ = some (.int .i64 id) ∧ w'.cell? ⟨g5_, 3, none⟩ = some (.slice A3 fs.length c3) ∧ w'.cell? ⟨g6_, 0, none⟩ = some (.int .i64 f0) ∧ w'.cell? ⟨g6_, 1, none⟩ = some (.string f1) ∧ w'.cell? ⟨g6_, 2, none⟩ = some (.slice F2 f2.length p2) ∧ w'.cell? ⟨g6_, 3, none⟩ = some (.int .i64 f3) ∧ w'.cell? ⟨g6_, 4, none⟩ = some (.int .i64 f4) ∧ w'.cell? ⟨g6_, 5, none⟩ = some (.slice F5 f5.length p5)) (ds := [5]) (Array.replicate 11 false) (by kernel_rfl) rfl rfl ⟨k0, k1, k2, k3, m0, m1, m2, m3, m4, m5⟩ (fun hHeld => ?_)
 refine tk_ 0 (some 56) hHeld ?_
 refine tk_ 1 (some 57) hHeld ?_
 refine pu_ 3 (some 59) ?_
 refine pu_ 4 (some 60) ?_
 refine on_ 2 (some 58) (fun K hK => ?_)
 refine go_ Tryd.func26 #[.int .i64 4, .agg #[.int .i64 f0, .string f1, .slice F2 f2.length p2, .int .i64 f3, .int .i64 f4, .slice F5 f5.length p5]] ?_
 refine (lc_kid f0 f1 f3 f4 4 (HF.out.below (below_drew1 HB9.out))).mono ?_
 rintro e w10 ⟨B2, d2, B5, d5, rfl, hk, hb⟩
 refine ⟨_, rfl, ?_⟩
 have HK := mk_ hk
 have hb10 : Below w9.heap.size w9 w10 := (below_drew (Below.refl _ _)).trans hb
 have HB10 := mk_ (below_step HB9.out hb10)
 have BX' := mk_ (BX.out.below hb10)
 have HBO' := mk_ (Kd.C_below HBO.out hb10)
 refine hK.out _ _ ⟨((hb10.cell (World.block_lt_of_cell? _ _ k0)).trans k0), ((hb10.cell (World.block_lt_of_cell? _ _ k1)).trans k1), ((hb10.cell (World.block_lt_of_cell? _ _ k2)).trans k2), ((hb10.cell (World.block_lt_of_cell? _ _ k3)).trans k3), ((hb10.cell (World.block_lt_of_cell? _ _ m0)).trans m0), ((hb10.cell (World.block_lt_of_cell? _ _ m1)).trans m1), ((hb10.cell (World.block_lt_of_cell? _ _ m2)).trans m2), ((hb10.cell (World.block_lt_of_cell? _ _ m3)).trans m3), ((hb10.cell (World.block_lt_of_cell? _ _ m4)).trans m4), ((hb10.cell (World.block_lt_of_cell? _ _ m5)).trans m5)⟩ (fun hHeld => ?_)
 clear hK K
 refine no_ (N := some 58) ?_
 clear hb hk hb10 k0 k1 k2 k3 m0 m1 m2 m3 m4 m5
 refine la_ 5 (some 61) (fun K hK => ?_)
 refine go_ Tryd.func20 #[.agg #[.slice A0 ds.length c0, .slice A1 ts.length c1, .int .i64 id, .slice A3 fs.length c3], .agg #[.int .i64 4, .string ⟨#[]⟩, .slice B2 ([] : List S92).length d2, .int .i64 0, .int .i64 0, .slice B5 [(⟨f0, f1, f2, f3, f4, f5⟩ : S32)].length d5], .int .i64 co, .int .i64 m] ?_
 refine (lc_at k id 4 ⟨#[]⟩ 0 0 co m (HW.out.below HB10.out) HK.out (tb_on HTB.out HB10.out) HN_.out).mono ?_
 rintro e w11 ⟨rfl, hb⟩
 refine ⟨_, rfl, ?_⟩
 have HB11 := mk_ (below_step HB10.out hb)
 have BX1 := mk_ (BX'.out.below hb)
 have HBO1 := mk_ (Kd.C_below HBO'.out hb)
 clear hb HB10 BX' HBO'
 refine hK.out _ _ ?_
 clear hK K
 refine no_ (N := some 61) ?_
 refine pu_ 6 (some 55) ?_
 refine pu_ 7 (some 62) ?_
 refine pu_ 8 (some 63) ?_
 refine pu_ 9 (some 16) ?_
 refine pu_ 10 (some 17) ?_
 refine done_ (by kernel_rfl) ?_
 obtain ⟨_, _, _, _, -, -, -, -⟩ := hb4_ BX1.out.b5
 have T5 : True := trivial
 have T6 : True := trivial
 have T7 : True := trivial
 go_upto_region 12 with (first | (clear T5; go_at_call 20; refine (lc_at k id 5 ⟨#[]⟩ 0 0 co m (HW.out.below HB11.out) (FM.mk (C_none92 _) (Nat.le_refl _) HBO1.out (Nat.le_refl _)) (tb_on HTB.out HB11.out) HA_.out).mono ?_; rintro e w12 ⟨rfl, hb⟩; have HB12 := mk_ (below_step HB11.out hb); have BX2 := mk_ (BX1.out.below hb); have HBO2 := mk_ (Kd.C_below HBO1.out hb); clear hb HB11 BX1 HBO1; obtain ⟨_, _, _, _, -, -, -, -⟩ := hb4_ BX2.out.b5) | (clear T6; go_at_call 20; refine (lc_at k id 6 ⟨#[]⟩ 0 0 co m (HW.out.below HB12.out) (FM.mk (C_none92 _) (Nat.le_refl _) HBO2.out (Nat.le_refl _)) (tb_on HTB.out HB12.out) HO_.out).mono ?_; rintro e w13 ⟨rfl, hb⟩; have HB13 := mk_ (below_step HB12.out hb); have BX3 := mk_ (BX2.out.below hb); have HBO3 := mk_ (Kd.C_below HBO2.out hb); clear hb HB12 BX2 HBO2; obtain ⟨_, _, _, _, -, -, -, -⟩ := hb4_ BX3.out.b5) | (clear T7; go_at_call 20; refine (lc_at k id 7 ⟨#[]⟩ 0 0 co m (HW.out.below HB13.out) (FM.mk (C_none92 _) (Nat.le_refl _) HBO3.out (Nat.le_refl _)) (tb_on HTB.out HB13.out) HT_.out).mono ?_; rintro e w14 ⟨rfl, hb⟩; have HB14 := mk_ (below_step HB13.out hb); have BX4 := mk_ (BX3.out.below hb); have HBO4 := mk_ (Kd.C_below HBO3.out hb); clear hb HB13 BX3 HBO3; obtain ⟨_, _, _, _, -, -, -, -⟩ := hb4_ BX4.out.b5))
 cases x2
 ·go_wp2
  go_ret
  exact ⟨rfl, HB14.out⟩
 cases y2
 ·go_wp2
  go_ret
  exact ⟨rfl, HB14.out⟩
 cases n2
 ·go_wp2
  go_ret
  exact ⟨rfl, HB14.out⟩
 cases a2
 ·go_wp2
  go_ret
  exact ⟨rfl, HB14.out⟩
 cases o2
 ·go_wp2
  go_ret
  exact ⟨rfl, HB14.out⟩
 cases t2
 ·go_wp2
  go_ret
  exact ⟨rfl, HB14.out⟩
 have hcc := HCC.out
 clear HCC
 simp only [ConnOk, Bool.and_self, Bool.not_true, Bool.false_or, Bool.and_eq_true, beq_iff_eq] at hcc
 obtain ⟨rfl, rfl, rfl, rfl⟩ := hcc
 cases x1 <;> cases y1
 all_goals
  simp only [Bool.not_true, Bool.not_false, Bool.and_self, Bool.or_self, Bool.and_true, Bool.and_false, Bool.or_true, Bool.or_false, Bool.true_and, Bool.false_and, Bool.true_or, Bool.false_or]
  go_wp2
  go_ret
  exact ⟨rfl, HB14.out⟩

/-- THE ONE PURE STATEMENT of pentaglotlaw26_EvaluateConnectives. -/
def pentaglotlaw26_EvaluateConnectives.Pure : Prop := ∀ (p0 : S28) (p1 : S32) (p2 : S32) (p3 : Int) (p4 : Int), wf28 p0 → wf32 p1 → wf32 p2 → (Lit.int .i64 p3).wf = true → (Lit.int .i64 p4).wf = true → bulk28 p0 + bulk32 p1 + bulk32 p2 + 1 + 1 ≤ 1048576 → ∃ k, pentaglotlaw26_EvaluateConnectives.f k p0.f0.f0 p0.f0.f1 p0.f0.f2 p0.f1 p1.f0 p1.f1 p1.f2 p1.f3 p1.f4 p1.f5 p2.f0 p2.f1 p2.f2 p2.f3 p2.f4 p2.f5 p3 p4 = some true

end Go.Proofs.YtolpckflofjfhaaDoor.P
