import Derived.Test.YtolpckflofjfhaaDoorPx0
import Derived.Test.YtolpckflofjfhaaDoorPx8
import Derived.Test.YtolpckflofjfhaaDoorPx17
import Derived.Test.YtolpckflofjfhaaDoorPx26
namespace Go.Proofs.YtolpckflofjfhaaDoor.P
open Go.RowKit Go.Proofs.YtolpckflofjfhaaDoorW.PrintWords Go.Proofs.YtolpckflofjfhaaDoorW.PrintLast Go.Proofs.YtolpckflofjfhaaDoorW.PrintMore
attribute [local go_sem] max2_int min2_int max_two min_two max_three min_three max_four min_four
set_option linter.unusedVariables false
set_option maxHeartbeats 8000000
set_option maxRecDepth 100000
set_option linter.unusedSimpArgs false
structure WR (w : World) (A0 : Option Addr) (c0 : Nat) (ds : List S73) (A1 : Option Addr) (c1 : Nat) (ts : List Int) (A3 : Option Addr) (c3 : Nat) (fs : List S62) : Prop where
 r0 : Kd.C k73 w A0 ds.length ds
 l0 : ds.length ≤ c0
 r1 : Kd.C (Kd.int .i64) w A1 ts.length ts
 l1 : ts.length ≤ c1
 r3 : Kd.C k62 w A3 fs.length fs
 l3 : fs.length ≤ c3
theorem WR.below {w w' : World} {A0 : Option Addr} {c0 : Nat} {ds : List S73} {A1 : Option Addr} {c1 : Nat} {ts : List Int} {A3 : Option Addr} {c3 : Nat} {fs : List S62} (h : WR w A0 c0 ds A1 c1 ts A3 c3 fs) (hb : Below w.heap.size w w') : WR w' A0 c0 ds A1 c1 ts A3 c3 fs :=
 ⟨Kd.C_below h.r0 hb, h.l0, Kd.C_below h.r1 hb, h.l1, Kd.C_below h.r3 hb, h.l3⟩
structure FR (w : World) (A2 : Option Addr) (c2 : Nat) (l2 : List S92) (A5 : Option Addr) (c5 : Nat) (l5 : List S32) (AB : Option Addr) (cB : Nat) (bnd : List ByteArray) : Prop where
 r2 : Kd.C k92 w A2 l2.length l2
 l2 : l2.length ≤ c2
 r5 : Kd.C k32 w A5 l5.length l5
 l5 : l5.length ≤ c5
 rB : Kd.C Kd.string w AB bnd.length bnd
 lB : bnd.length ≤ cB
theorem FR.below {w w' : World} {A2 : Option Addr} {c2 : Nat} {l2 : List S92} {A5 : Option Addr} {c5 : Nat} {l5 : List S32} {AB : Option Addr} {cB : Nat} {bnd : List ByteArray} (h : FR w A2 c2 l2 A5 c5 l5 AB cB bnd) (hb : Below w.heap.size w w') : FR w' A2 c2 l2 A5 c5 l5 AB cB bnd :=
 ⟨Kd.C_below h.r2 hb, h.l2, Kd.C_below h.r5 hb, h.l5, Kd.C_below h.rB hb, h.lB⟩
structure B2 (w : World) (g5 g6 : Nat) (u v : Array Value) : Prop where
 b5 : Aside0 (w.heap[g5]? = some (.cells u 28 (0, 0)))
 b6 : Aside0 (w.heap[g6]? = some (.cells v 32 (0, 0)))
theorem B2.below {w w' : World} {g5 g6 : Nat} {u v : Array Value} (h : B2 w g5 g6 u v) (hb : Below w.heap.size w w') : B2 w' g5 g6 u v := ⟨⟨blk_below h.b5.out hb⟩, ⟨blk_below h.b6.out hb⟩⟩
def witQ (so : Bool) (p : ByteArray → Option Bool) : List ByteArray → Option (ByteArray × Bool)
 | [] => some (⟨#[]⟩, false)
 | s :: l => (p s).bind fun b => if b = so then some (s, true) else witQ so p l
def rtG (ds : List S73) (ts : List Int) (id : Int) (fs : List S62) : Nat → S32 → List ByteArray → Int → Int → Option Bool
 | 0, _, _, _, _ => none
 | k + 1, t, bnd, co, m =>
  let kid := fun (i : Int) => if 0 ≤ i ∧ i < (t.f5.length : Int) then rtG ds ts id fs k (rd_T32 t.f5 i) bnd co m else none
  let wit := fun (so : Bool) => (pentaglotref26_Individuals.f k ds ts id t.f1).bind fun ns => if 0 < t.f5.length ∧ ns.1.length < 4398046511104 ∧ bnd.length < 4398046511104 then witQ so (fun s => rtG ds ts id fs k (rd_T32 t.f5 0) (bnd ++ [s]) co m) ns.1 else none
  if t.f0 = 1 then some true
  else if t.f0 = 3 then pentaglotref26_atom.f k ds ts id fs t.f0 t.f1 t.f2 t.f3 t.f4 t.f5 bnd co m
  else if t.f0 = 4 then (kid 0).bind fun b => some (!b)
  else if t.f0 = 5 then (if t.f5.length < 4398046511104 then someL true kid t.f5.length 0 else none)
  else if t.f0 = 6 then (if t.f5.length < 4398046511104 then someL false kid t.f5.length 0 else none)
  else if t.f0 = 7 then (kid 0).bind fun b => if b = true then kid 1 else some true
  else if t.f0 = 8 then (wit false).bind fun r => some (!r.2)
  else if t.f0 = 9 then (wit true).bind fun r => some r.2
  else if t.f0 = 10 then (pentaglotref26_Interval.f k ds ts id t.f3 t.f4).bind fun ab => if 0 < t.f5.length ∧ ab.1.length < 4398046511104 then someL true (fun i => rtG ds ts id fs k (rd_T32 t.f5 0) bnd co (rd ab.1 i)) ab.1.length 0 else none
  else if t.f0 = 11 then (if 0 < t.f5.length ∧ 0 ≤ id ∧ id < 4611686018427387904 then someL true (fun i => rtG ds ts id fs k (rd_T32 t.f5 0) bnd i m) id.toNat 1 else none)
  else if t.f0 = 12 then (if 0 < t.f5.length ∧ 0 ≤ id ∧ id < 4611686018427387904 then someL false (fun i => rtG ds ts id fs k (rd_T32 t.f5 0) bnd i m) id.toNat 1 else none)
  else some false
def rwG (ds : List S73) (ts : List Int) (id : Int) (fs : List S62) (k : Nat) (so : Bool) (f1 : ByteArray) (f5 : List S32) (bnd : List ByteArray) (co m : Int) : Option (ByteArray × Bool) :=
 (pentaglotref26_Individuals.f k ds ts id f1).bind fun ns => if 0 < f5.length ∧ ns.1.length < 4398046511104 ∧ bnd.length < 4398046511104 then witQ so (fun s => rtG ds ts id fs k (rd_T32 f5 0) (bnd ++ [s]) co m) ns.1 else none
def RTC (ds : List S73) (ts : List Int) (id : Int) (fs : List S62) (k : Nat) : Prop := ∀ (A0 : Option Addr) (c0 : Nat) (A1 : Option Addr) (c1 : Nat) (A3 : Option Addr) (c3 : Nat) (t : S32) (A2 : Option Addr) (c2 : Nat) (A5 : Option Addr) (c5 : Nat) (bnd : List ByteArray) (AB : Option Addr) (cB : Nat) (co m : Int) (r : Bool) (w : World), WR w A0 c0 ds A1 c1 ts A3 c3 fs → FR w A2 c2 t.f2 A5 c5 t.f5 AB cB bnd → rtG ds ts id fs k t bnd co m = some r →
 Calls Tryd.prog 17 #[.agg #[.slice A0 ds.length c0, .slice A1 ts.length c1, .int .i64 id, .slice A3 fs.length c3], .agg #[.int .i64 t.f0, .string t.f1, .slice A2 t.f2.length c2, .int .i64 t.f3, .int .i64 t.f4, .slice A5 t.f5.length c5], .slice AB bnd.length cB, .int .i64 co, .int .i64 m] w fun e w' => e = .returned (.bool r) ∧ Below w.heap.size w w'
theorem rt_op1 {ds : List S73} {ts : List Int} {id : Int} {fs : List S62} {k : Nat} (IH : RTC ds ts id fs k) {A0 : Option Addr} {c0 : Nat} {A1 : Option Addr} {c1 : Nat} {A3 : Option Addr} {c3 : Nat} {f1 : ByteArray} {f2 : List S92} {f3 f4 : Int} {f5 : List S32} {A2 : Option Addr} {c2 : Nat} {A5 : Option Addr} {c5 : Nat} {bnd : List ByteArray} {AB : Option Addr} {cB : Nat} {co m : Int} {r : Bool} {w : World} (hw : WR w A0 c0 ds A1 c1 ts A3 c3 fs) (hf : FR w A2 c2 f2 A5 c5 f5 AB cB bnd) (h : rtG ds ts id fs (k + 1) ⟨1, f1, f2, f3, f4, f5⟩ bnd co m = some r) :
  Calls Tryd.prog 17 #[.agg #[.slice A0 ds.length c0, .slice A1 ts.length c1, .int .i64 id, .slice A3 fs.length c3], .agg #[.int .i64 1, .string f1, .slice A2 f2.length c2, .int .i64 f3, .int .i64 f4, .slice A5 f5.length c5], .slice AB bnd.length cB, .int .i64 co, .int .i64 m] w fun e w' => e = .returned (.bool r) ∧ Below w.heap.size w w' := by
 have HW := mk_ hw
 have HF := mk_ hf
 have HB0 := mk_ (Below.refl w.heap.size w)
 have hu25 := Tryd.underlying25
 have hu28 := Tryd.underlying28
 have hu32 := Tryd.underlying32
 have hu30 := Tryd.underlying30
 have hu60 := Tryd.underlying60
 clear hw hf
 obtain rfl : true = r := Option.some.inj ((show rtG ds ts id fs (k + 1) ⟨1, f1, f2, f3, f4, f5⟩ bnd co m = some true by rw [rtG.eq_2]; rfl).symm.trans h)
 go_enter Tryd.func17, Tryd.ntmps17
 go_wp2_with (first | ((with_reducible refine gate_dst (N := 5) rfl ?_); refine bx_ 5 #[.slice A0 ds.length c0, .slice A1 ts.length c1, .int .i64 id, .slice A3 fs.length c3] 28 ?_; intro g5 hg w1 hbox hb; have BK5 := mk_ hbox; have HB1 := mk_ (below_step HB0.out hb); clear hb hbox hg HB0) | ((with_reducible refine gate_dst (N := 6) rfl ?_); refine bx_ 6 #[.int .i64 1, .string f1, .slice A2 f2.length c2, .int .i64 f3, .int .i64 f4, .slice A5 f5.length c5] 32 ?_; intro g6 hg w2 hbox hb; have BX : Aside0 (B2 w2 g5 g6 _ _) := ⟨⟨⟨blk_below BK5.out hb⟩, ⟨hbox⟩⟩⟩; have HB2 := mk_ (below_step HB1.out hb); clear hb hbox hg HB1 BK5; obtain ⟨_, _, _, _, _, _, -, -, -, -, -, -⟩ := hb6_ BX.out.b6))
 go_ret
 exact ⟨rfl, HB2.out⟩
theorem rt_op3 {ds : List S73} {ts : List Int} {id : Int} {fs : List S62} {k : Nat} (IH : RTC ds ts id fs k) {A0 : Option Addr} {c0 : Nat} {A1 : Option Addr} {c1 : Nat} {A3 : Option Addr} {c3 : Nat} {f1 : ByteArray} {f2 : List S92} {f3 f4 : Int} {f5 : List S32} {A2 : Option Addr} {c2 : Nat} {A5 : Option Addr} {c5 : Nat} {bnd : List ByteArray} {AB : Option Addr} {cB : Nat} {co m : Int} {r : Bool} {w : World} (hw : WR w A0 c0 ds A1 c1 ts A3 c3 fs) (hf : FR w A2 c2 f2 A5 c5 f5 AB cB bnd) (h : rtG ds ts id fs (k + 1) ⟨3, f1, f2, f3, f4, f5⟩ bnd co m = some r) :
  Calls Tryd.prog 17 #[.agg #[.slice A0 ds.length c0, .slice A1 ts.length c1, .int .i64 id, .slice A3 fs.length c3], .agg #[.int .i64 3, .string f1, .slice A2 f2.length c2, .int .i64 f3, .int .i64 f4, .slice A5 f5.length c5], .slice AB bnd.length cB, .int .i64 co, .int .i64 m] w fun e w' => e = .returned (.bool r) ∧ Below w.heap.size w w' := by
 have HW := mk_ hw
 have HF := mk_ hf
 have HB0 := mk_ (Below.refl w.heap.size w)
 have hu25 := Tryd.underlying25
 have hu28 := Tryd.underlying28
 have hu32 := Tryd.underlying32
 have hu30 := Tryd.underlying30
 have hu60 := Tryd.underlying60
 clear hw hf
 have hq : pentaglotref26_atom.f k ds ts id fs 3 f1 f2 f3 f4 f5 bnd co m = some r := (show rtG ds ts id fs (k + 1) ⟨3, f1, f2, f3, f4, f5⟩ bnd co m = pentaglotref26_atom.f k ds ts id fs 3 f1 f2 f3 f4 f5 bnd co m by rw [rtG.eq_2]; rfl).symm.trans h
 have HQ := mk_ hq
 clear h hq
 go_enter Tryd.func17, Tryd.ntmps17
 go_wp2_with (first | ((with_reducible refine gate_dst (N := 5) rfl ?_); refine bx_ 5 #[.slice A0 ds.length c0, .slice A1 ts.length c1, .int .i64 id, .slice A3 fs.length c3] 28 ?_; intro g5 hg w1 hbox hb; have BK5 := mk_ hbox; have HB1 := mk_ (below_step HB0.out hb); clear hb hbox hg HB0) | ((with_reducible refine gate_dst (N := 6) rfl ?_); refine bx_ 6 #[.int .i64 3, .string f1, .slice A2 f2.length c2, .int .i64 f3, .int .i64 f4, .slice A5 f5.length c5] 32 ?_; intro g6 hg w2 hbox hb; have BX : Aside0 (B2 w2 g5 g6 _ _) := ⟨⟨⟨blk_below BK5.out hb⟩, ⟨hbox⟩⟩⟩; have HB2 := mk_ (below_step HB1.out hb); clear hb hbox hg HB1 BK5; obtain ⟨_, _, _, _, _, _, -, -, -, -, -, -⟩ := hb6_ BX.out.b6; obtain ⟨_, _, _, _, -, -, -, -⟩ := hb4_ BX.out.b5) | (go_at_call 41; refine (pentaglotref26_atom.calls k _ _ ds _ _ ts id _ _ fs 3 f1 _ _ f2 f3 f4 _ _ f5 _ _ bnd co m r _ (HW.out.below HB2.out).r0 HW.out.l0 (HW.out.below HB2.out).r1 HW.out.l1 (HW.out.below HB2.out).r3 HW.out.l3 (HF.out.below HB2.out).r2 HF.out.l2 (HF.out.below HB2.out).r5 HF.out.l5 (HF.out.below HB2.out).rB HF.out.lB HQ.out).mono ?_; rintro e w3 ⟨rfl, hb⟩; have HB3 := mk_ (below_step HB2.out hb); clear hb))
 go_ret
 exact ⟨rfl, HB3.out⟩
theorem rt_op4 {ds : List S73} {ts : List Int} {id : Int} {fs : List S62} {k : Nat} (IH : RTC ds ts id fs k) {A0 : Option Addr} {c0 : Nat} {A1 : Option Addr} {c1 : Nat} {A3 : Option Addr} {c3 : Nat} {f1 : ByteArray} {f2 : List S92} {f3 f4 : Int} {f5 : List S32} {A2 : Option Addr} {c2 : Nat} {A5 : Option Addr} {c5 : Nat} {bnd : List ByteArray} {AB : Option Addr} {cB : Nat} {co m : Int} {r : Bool} {w : World} (hw : WR w A0 c0 ds A1 c1 ts A3 c3 fs) (hf : FR w A2 c2 f2 A5 c5 f5 AB cB bnd) (h : rtG ds ts id fs (k + 1) ⟨4, f1, f2, f3, f4, f5⟩ bnd co m = some r) :
  Calls Tryd.prog 17 #[.agg #[.slice A0 ds.length c0, .slice A1 ts.length c1, .int .i64 id, .slice A3 fs.length c3], .agg #[.int .i64 4, .string f1, .slice A2 f2.length c2, .int .i64 f3, .int .i64 f4, .slice A5 f5.length c5], .slice AB bnd.length cB, .int .i64 co, .int .i64 m] w fun e w' => e = .returned (.bool r) ∧ Below w.heap.size w w' := by
 have HW := mk_ hw
 have HF := mk_ hf
 have HB0 := mk_ (Below.refl w.heap.size w)
 have hu25 := Tryd.underlying25
 have hu28 := Tryd.underlying28
 have hu32 := Tryd.underlying32
 have hu30 := Tryd.underlying30
 have hu60 := Tryd.underlying60
 clear hw hf
 replace h := (show rtG ds ts id fs (k + 1) ⟨4, f1, f2, f3, f4, f5⟩ bnd co m = (if (0 : Int) ≤ 0 ∧ (0 : Int) < (f5.length : Int) then rtG ds ts id fs k (rd_T32 f5 0) bnd co m else none).bind (fun b => some (!b)) by rw [rtG.eq_2]; rfl).symm.trans h
 obtain ⟨b, hq, h⟩ := Option.bind_eq_some_iff.1 h
 obtain rfl := Option.some.inj h
 split at hq
 case isFalse => cases hq
 rename_i hc
 have HC := mk_ hc.2
 have HQ := mk_ hq
 clear h hq hc
 go_enter Tryd.func17, Tryd.ntmps17
 go_wp2_with (first | ((with_reducible refine gate_dst (N := 5) rfl ?_); refine bx_ 5 #[.slice A0 ds.length c0, .slice A1 ts.length c1, .int .i64 id, .slice A3 fs.length c3] 28 ?_; intro g5 hg w1 hbox hb; have BK5 := mk_ hbox; have HB1 := mk_ (below_step HB0.out hb); clear hb hbox hg HB0) | ((with_reducible refine gate_dst (N := 6) rfl ?_); refine bx_ 6 #[.int .i64 4, .string f1, .slice A2 f2.length c2, .int .i64 f3, .int .i64 f4, .slice A5 f5.length c5] 32 ?_; intro g6 hg w2 hbox hb; have BX : Aside0 (B2 w2 g5 g6 _ _) := ⟨⟨⟨blk_below BK5.out hb⟩, ⟨hbox⟩⟩⟩; have HB2 := mk_ (below_step HB1.out hb); clear hb hbox hg HB1 BK5; obtain ⟨_, _, _, _, _, _, -, -, -, -, -, -⟩ := hb6_ BX.out.b6))
 have hq := HQ.out
 obtain ⟨ad, X2, e2, X5, e5, ea, hk0, hk1, hk2, hk3, hk4, hk5, hl2, hg2, hl5, hg5⟩ := at_T32 (HF.out.below HB2.out).r5 0 (Int.le_refl _) HC.out
 subst ea
 have hpos : 0 < f5.length := by have := HC.out; omega
 clear HQ
 obtain ⟨x, hx⟩ : ∃ x, x = rd_T32 f5 0 := ⟨_, rfl⟩
 rw [← hx] at hk0 hk1 hk2 hk3 hk4 hk5 hl2 hg2 hl5 hg5 hq
 clear hx
 have ea0 : ad.add ((0 : Int).toNat * 6) = ad := by cases ad; rfl
 rw [ea0] at hk0 hk1 hk2 hk3 hk4 hk5
 clear ea0
 refine start_ (n := 11) (S := fun w' => w'.cell? ⟨g5, 0, none⟩ = some (.slice A0 ds.length c0) ∧ w'.cell? ⟨g5, 1, none⟩ = some (.slice A1 ts.length c1) ∧ w'.cell? ⟨g5, 2, none⟩ = some (.int .i64 id) ∧ w'.cell? ⟨g5, 3, none⟩ = some (.slice A3 fs.length c3) ∧ w'.cell? ⟨g6, 5, none⟩ = some (.slice (some ad) f5.length c5) ∧ w'.cell? ad = some (.int .i64 x.f0) ∧ w'.cell? ⟨ad.block, ad.off + 1, none⟩ = some (.string x.f1) ∧ w'.cell? ⟨ad.block, ad.off + 2, none⟩ = some (.slice X2 x.f2.length e2) ∧ w'.cell? ⟨ad.block, ad.off + 3, none⟩ = some (.int .i64 x.f3) ∧ w'.cell? ⟨ad.block, ad.off + 4, none⟩ = some (.int .i64 x.f4) ∧ w'.cell? ⟨ad.block, ad.off + 5, none⟩ = some (.slice X5 x.f5.length e5)) (ds := [8]) (Array.replicate 11 false) (by kernel_rfl) rfl rfl ⟨(blk_cell (blk_drew BX.out.b5.out) 0).trans rfl, (blk_cell (blk_drew BX.out.b5.out) 1).trans rfl, (blk_cell (blk_drew BX.out.b5.out) 2).trans rfl, (blk_cell (blk_drew BX.out.b5.out) 3).trans rfl, (blk_cell (blk_drew BX.out.b6.out) 5).trans rfl, hk0, hk1, hk2, hk3, hk4, hk5⟩ (fun hHeld => ?_)
 refine tk_ 0 (some 33) hHeld ?_
 refine pu_ 1 (some 34) ?_
 refine tk_ 2 (some 35) hHeld ?_
 refine pu_ 3 (some 36) ?_
 refine tk_ 4 (some 37) hHeld ?_
 refine pu_ 5 (some 38) ?_
 refine pu_ 6 (some 39) ?_
 refine pu_ 7 (some 40) ?_
 refine la_ 8 (some 41) (fun K hK => ?_)
 refine go_ Tryd.func17 #[.agg #[.slice A0 ds.length c0, .slice A1 ts.length c1, .int .i64 id, .slice A3 fs.length c3], .agg #[.int .i64 x.f0, .string x.f1, .slice X2 x.f2.length e2, .int .i64 x.f3, .int .i64 x.f4, .slice X5 x.f5.length e5], .slice AB bnd.length cB, .int .i64 co, .int .i64 m] ?_
 refine (IH A0 c0 A1 c1 A3 c3 x X2 e2 X5 e5 bnd _ _ _ _ _ _ (HW.out.below (below_drew1 HB2.out)) (FR.mk (Kd.C_below hg2 (below_drew (Below.refl _ _))) hl2 (Kd.C_below hg5 (below_drew (Below.refl _ _))) hl5 (HF.out.below (below_drew1 HB2.out)).rB HF.out.lB) hq).mono ?_
 rintro e w3 ⟨rfl, hb⟩
 refine ⟨_, rfl, ?_⟩
 have hbd := (below_drew (Below.refl _ _)).trans hb
 have HB3 := mk_ (below_step HB2.out hbd)
 have BX' := mk_ (BX.out.below hbd)
 clear hb
 refine hK.out _ _ ?_
 clear hK K
 refine no_ (N := some 41) ?_
 refine pu_ 9 (some 42) ?_
 refine pu_ 10 (some 10) ?_
 refine done_ (by kernel_rfl) ?_
 go_wp2
 go_ret
 exact ⟨rfl, HB3.out⟩
theorem rt_op5 {ds : List S73} {ts : List Int} {id : Int} {fs : List S62} {k : Nat} (IH : RTC ds ts id fs k) {A0 : Option Addr} {c0 : Nat} {A1 : Option Addr} {c1 : Nat} {A3 : Option Addr} {c3 : Nat} {f1 : ByteArray} {f2 : List S92} {f3 f4 : Int} {f5 : List S32} {A2 : Option Addr} {c2 : Nat} {A5 : Option Addr} {c5 : Nat} {bnd : List ByteArray} {AB : Option Addr} {cB : Nat} {co m : Int} {r : Bool} {w : World} (hw : WR w A0 c0 ds A1 c1 ts A3 c3 fs) (hf : FR w A2 c2 f2 A5 c5 f5 AB cB bnd) (h : rtG ds ts id fs (k + 1) ⟨5, f1, f2, f3, f4, f5⟩ bnd co m = some r) :
  Calls Tryd.prog 17 #[.agg #[.slice A0 ds.length c0, .slice A1 ts.length c1, .int .i64 id, .slice A3 fs.length c3], .agg #[.int .i64 5, .string f1, .slice A2 f2.length c2, .int .i64 f3, .int .i64 f4, .slice A5 f5.length c5], .slice AB bnd.length cB, .int .i64 co, .int .i64 m] w fun e w' => e = .returned (.bool r) ∧ Below w.heap.size w w' := by
 have HW := mk_ hw
 have HF := mk_ hf
 have HB0 := mk_ (Below.refl w.heap.size w)
 have hu25 := Tryd.underlying25
 have hu28 := Tryd.underlying28
 have hu32 := Tryd.underlying32
 have hu30 := Tryd.underlying30
 have hu60 := Tryd.underlying60
 clear hw hf
 replace h := (show rtG ds ts id fs (k + 1) ⟨5, f1, f2, f3, f4, f5⟩ bnd co m = (if f5.length < 4398046511104 then someL true (fun i => if 0 ≤ i ∧ i < (f5.length : Int) then rtG ds ts id fs k (rd_T32 f5 i) bnd co m else none) f5.length 0 else none) by rw [rtG.eq_2]; rfl).symm.trans h
 split at h
 case isFalse => cases h
 rename_i hln
 have HQ0 : Aside0 (someL true (fun i => if 0 ≤ i ∧ i < (f5.length : Int) then rtG ds ts id fs k (rd_T32 f5 i) bnd co m else none) (f5.length - 0) ((0 : Nat) : Int) = some r) := ⟨h⟩
 have HLN := mk_ hln
 clear h hln
 go_enter Tryd.func17, Tryd.ntmps17
 go_wp2_with (first | ((with_reducible refine gate_dst (N := 5) rfl ?_); refine bx_ 5 #[.slice A0 ds.length c0, .slice A1 ts.length c1, .int .i64 id, .slice A3 fs.length c3] 28 ?_; intro g5 hg w1 hbox hb; have BK5 := mk_ hbox; have HB1 := mk_ (below_step HB0.out hb); clear hb hbox hg HB0) | ((with_reducible refine gate_dst (N := 6) rfl ?_); refine bx_ 6 #[.int .i64 5, .string f1, .slice A2 f2.length c2, .int .i64 f3, .int .i64 f4, .slice A5 f5.length c5] 32 ?_; intro g6 hg w2 hbox hb; have BX : Aside0 (B2 w2 g5 g6 _ _) := ⟨⟨⟨blk_below BK5.out hb⟩, ⟨hbox⟩⟩⟩; have HB2 := mk_ (below_step HB1.out hb); clear hb hbox hg HB1 BK5; obtain ⟨_, _, _, _, _, _, -, -, -, -, -, -⟩ := hb6_ BX.out.b6))
 go_loopw [11] (fun v wr => ∃ i : Nat, v = .int .i64 (i : Int) ∧ Aside0 (i ≤ f5.length) ∧ Aside0 (someL true (fun i => if 0 ≤ i ∧ i < (f5.length : Int) then rtG ds ts id fs k (rd_T32 f5 i) bnd co m else none) (f5.length - i) (i : Int) = some r) ∧ Aside0 (B2 wr g5 g6 #[.slice A0 ds.length c0, .slice A1 ts.length c1, .int .i64 id, .slice A3 fs.length c3] #[.int .i64 5, .string f1, .slice A2 f2.length c2, .int .i64 f3, .int .i64 f4, .slice A5 f5.length c5]) ∧ Aside0 (Below w.heap.size w wr)) (fun v _ => f5.length - (intOf v).toNat)
 case atStart => exact ⟨0, rfl, ⟨Nat.zero_le _⟩, HQ0, BX, HB2⟩
 case round =>
  clear HQ0 BX HB2
  obtain ⟨i, rfl, HI, HQ, BX, HB2⟩ := hrel
  have hln := HLN.out
  obtain ⟨_, _, _, _, _, _, -, -, -, -, -, -⟩ := hb6_ BX.out.b6
  by_cases hlt : i < f5.length
  ·have h0 : (0 : Int) ≤ (i : Int) := by omega
   have h1 : (i : Int) < (f5.length : Int) := by omega
   have hq := HQ.out
   rw [show f5.length - i = (f5.length - (i + 1)) + 1 by omega, someL] at hq
   simp only [if_pos (And.intro h0 h1)] at hq
   obtain ⟨b, hq, hn⟩ := Option.bind_eq_some_iff.1 hq
   have HN := mk_ hn
   clear hn HQ
   obtain ⟨ad, X2, e2, X5, e5, ea, hk0, hk1, hk2, hk3, hk4, hk5, hl2, hg2, hl5, hg5⟩ := at_T32 (HF.out.below HB2.out).r5 (i : Int) h0 h1
   subst ea
   obtain ⟨x, hx⟩ : ∃ x, x = rd_T32 f5 (i : Int) := ⟨_, rfl⟩
   rw [← hx] at hk0 hk1 hk2 hk3 hk4 hk5 hl2 hg2 hl5 hg5 hq
   clear hx
   rw [Int.toNat_natCast] at hk0 hk1 hk2 hk3 hk4 hk5
   have p0 : (0 ≤ (i : Int)) = True := eq_true h0
   have p1 : ((i : Int) < (f5.length : Int)) = True := eq_true h1
   have e1_ : wrap64 ((i : Int) + 1) = ((i + 1 : Nat) : Int) := by unfold wrap64; omega
   have HE := mk_ e1_
   clear h0 h1 e1_ hln
   go_wp2
   refine start_ (n := 11) (S := fun w' => w'.cell? ⟨g5, 0, none⟩ = some (.slice A0 ds.length c0) ∧ w'.cell? ⟨g5, 1, none⟩ = some (.slice A1 ts.length c1) ∧ w'.cell? ⟨g5, 2, none⟩ = some (.int .i64 id) ∧ w'.cell? ⟨g5, 3, none⟩ = some (.slice A3 fs.length c3) ∧ w'.cell? ⟨g6, 5, none⟩ = some (.slice (some ad) f5.length c5) ∧ w'.cell? (ad.add (i * 6)) = some (.int .i64 x.f0) ∧ w'.cell? ⟨(ad.add (i * 6)).block, (ad.add (i * 6)).off + 1, none⟩ = some (.string x.f1) ∧ w'.cell? ⟨(ad.add (i * 6)).block, (ad.add (i * 6)).off + 2, none⟩ = some (.slice X2 x.f2.length e2) ∧ w'.cell? ⟨(ad.add (i * 6)).block, (ad.add (i * 6)).off + 3, none⟩ = some (.int .i64 x.f3) ∧ w'.cell? ⟨(ad.add (i * 6)).block, (ad.add (i * 6)).off + 4, none⟩ = some (.int .i64 x.f4) ∧ w'.cell? ⟨(ad.add (i * 6)).block, (ad.add (i * 6)).off + 5, none⟩ = some (.slice X5 x.f5.length e5)) (ds := [9]) (Array.replicate 11 false) (by kernel_rfl) rfl rfl ⟨(blk_cell (blk_drew BX.out.b5.out) 0).trans rfl, (blk_cell (blk_drew BX.out.b5.out) 1).trans rfl, (blk_cell (blk_drew BX.out.b5.out) 2).trans rfl, (blk_cell (blk_drew BX.out.b5.out) 3).trans rfl, (blk_cell (blk_drew BX.out.b6.out) 5).trans rfl, hk0, hk1, hk2, hk3, hk4, hk5⟩ (fun hHeld => ?_)
   refine tk_ 0 (some 52) hHeld ?_
   refine pu_ 1 (some 53) ?_
   refine tk_ 2 (some 54) hHeld ?_
   refine pu_ 3 (some 55) ?_
   refine pu_ 4 (some 56) ?_
   refine tk_ 5 (some 57) hHeld ?_
   refine pu_ 6 (some 58) ?_
   refine pu_ 7 (some 59) ?_
   refine pu_ 8 (some 60) ?_
   refine la_ 9 (some 61) (fun K hK => ?_)
   refine go_ Tryd.func17 #[.agg #[.slice A0 ds.length c0, .slice A1 ts.length c1, .int .i64 id, .slice A3 fs.length c3], .agg #[.int .i64 x.f0, .string x.f1, .slice X2 x.f2.length e2, .int .i64 x.f3, .int .i64 x.f4, .slice X5 x.f5.length e5], .slice AB bnd.length cB, .int .i64 co, .int .i64 m] ?_
   refine (IH A0 c0 A1 c1 A3 c3 x X2 e2 X5 e5 bnd _ _ _ _ _ _ (HW.out.below (below_drew1 HB2.out)) (FR.mk (Kd.C_below hg2 (below_drew (Below.refl _ _))) hl2 (Kd.C_below hg5 (below_drew (Below.refl _ _))) hl5 (HF.out.below (below_drew1 HB2.out)).rB HF.out.lB) hq).mono ?_
   rintro e w3 ⟨rfl, hb⟩
   refine ⟨_, rfl, ?_⟩
   have hbd := (below_drew (Below.refl _ _)).trans hb
   have HB3 := mk_ (below_step HB2.out hbd)
   have BX' := mk_ (BX.out.below hbd)
   clear hb
   refine hK.out _ _ ?_
   clear hK K
   refine no_ (N := some 61) ?_
   refine pu_ 10 (some 62) ?_
   refine done_ (by kernel_rfl) ?_
   cases b
   ·obtain rfl := Option.some.inj HN.out
    go_wp2
    go_ret
    exact ⟨rfl, HB3.out⟩
   ·go_wp2
    go_roundw
    case rel => exact ⟨i + 1, by rw [HE.out], ⟨by omega⟩, ⟨HN.out⟩, BX', HB3⟩
    case measure => rw [HE.out]; simp only [intOf]; omega
  ·obtain rfl : i = f5.length := by have := HI.out; omega
   have hq := HQ.out
   rw [Nat.sub_self, someL] at hq
   obtain rfl := Option.some.inj hq
   clear hlt hq hln
   go_wp2
   go_ret
   exact ⟨rfl, HB2.out⟩
theorem rt_op6 {ds : List S73} {ts : List Int} {id : Int} {fs : List S62} {k : Nat} (IH : RTC ds ts id fs k) {A0 : Option Addr} {c0 : Nat} {A1 : Option Addr} {c1 : Nat} {A3 : Option Addr} {c3 : Nat} {f1 : ByteArray} {f2 : List S92} {f3 f4 : Int} {f5 : List S32} {A2 : Option Addr} {c2 : Nat} {A5 : Option Addr} {c5 : Nat} {bnd : List ByteArray} {AB : Option Addr} {cB : Nat} {co m : Int} {r : Bool} {w : World} (hw : WR w A0 c0 ds A1 c1 ts A3 c3 fs) (hf : FR w A2 c2 f2 A5 c5 f5 AB cB bnd) (h : rtG ds ts id fs (k + 1) ⟨6, f1, f2, f3, f4, f5⟩ bnd co m = some r) :
  Calls Tryd.prog 17 #[.agg #[.slice A0 ds.length c0, .slice A1 ts.length c1, .int .i64 id, .slice A3 fs.length c3], .agg #[.int .i64 6, .string f1, .slice A2 f2.length c2, .int .i64 f3, .int .i64 f4, .slice A5 f5.length c5], .slice AB bnd.length cB, .int .i64 co, .int .i64 m] w fun e w' => e = .returned (.bool r) ∧ Below w.heap.size w w' := by
 have HW := mk_ hw
 have HF := mk_ hf
 have HB0 := mk_ (Below.refl w.heap.size w)
 have hu25 := Tryd.underlying25
 have hu28 := Tryd.underlying28
 have hu32 := Tryd.underlying32
 have hu30 := Tryd.underlying30
 have hu60 := Tryd.underlying60
 clear hw hf
 replace h := (show rtG ds ts id fs (k + 1) ⟨6, f1, f2, f3, f4, f5⟩ bnd co m = (if f5.length < 4398046511104 then someL false (fun i => if 0 ≤ i ∧ i < (f5.length : Int) then rtG ds ts id fs k (rd_T32 f5 i) bnd co m else none) f5.length 0 else none) by rw [rtG.eq_2]; rfl).symm.trans h
 split at h
 case isFalse => cases h
 rename_i hln
 have HQ0 : Aside0 (someL false (fun i => if 0 ≤ i ∧ i < (f5.length : Int) then rtG ds ts id fs k (rd_T32 f5 i) bnd co m else none) (f5.length - 0) ((0 : Nat) : Int) = some r) := ⟨h⟩
 have HLN := mk_ hln
 clear h hln
 go_enter Tryd.func17, Tryd.ntmps17
 go_wp2_with (first | ((with_reducible refine gate_dst (N := 5) rfl ?_); refine bx_ 5 #[.slice A0 ds.length c0, .slice A1 ts.length c1, .int .i64 id, .slice A3 fs.length c3] 28 ?_; intro g5 hg w1 hbox hb; have BK5 := mk_ hbox; have HB1 := mk_ (below_step HB0.out hb); clear hb hbox hg HB0) | ((with_reducible refine gate_dst (N := 6) rfl ?_); refine bx_ 6 #[.int .i64 6, .string f1, .slice A2 f2.length c2, .int .i64 f3, .int .i64 f4, .slice A5 f5.length c5] 32 ?_; intro g6 hg w2 hbox hb; have BX : Aside0 (B2 w2 g5 g6 _ _) := ⟨⟨⟨blk_below BK5.out hb⟩, ⟨hbox⟩⟩⟩; have HB2 := mk_ (below_step HB1.out hb); clear hb hbox hg HB1 BK5; obtain ⟨_, _, _, _, _, _, -, -, -, -, -, -⟩ := hb6_ BX.out.b6))
 go_loopw [12] (fun v wr => ∃ i : Nat, v = .int .i64 (i : Int) ∧ Aside0 (i ≤ f5.length) ∧ Aside0 (someL false (fun i => if 0 ≤ i ∧ i < (f5.length : Int) then rtG ds ts id fs k (rd_T32 f5 i) bnd co m else none) (f5.length - i) (i : Int) = some r) ∧ Aside0 (B2 wr g5 g6 #[.slice A0 ds.length c0, .slice A1 ts.length c1, .int .i64 id, .slice A3 fs.length c3] #[.int .i64 6, .string f1, .slice A2 f2.length c2, .int .i64 f3, .int .i64 f4, .slice A5 f5.length c5]) ∧ Aside0 (Below w.heap.size w wr)) (fun v _ => f5.length - (intOf v).toNat)
 case atStart => exact ⟨0, rfl, ⟨Nat.zero_le _⟩, HQ0, BX, HB2⟩
 case round =>
  clear HQ0 BX HB2
  obtain ⟨i, rfl, HI, HQ, BX, HB2⟩ := hrel
  have hln := HLN.out
  obtain ⟨_, _, _, _, _, _, -, -, -, -, -, -⟩ := hb6_ BX.out.b6
  by_cases hlt : i < f5.length
  ·have h0 : (0 : Int) ≤ (i : Int) := by omega
   have h1 : (i : Int) < (f5.length : Int) := by omega
   have hq := HQ.out
   rw [show f5.length - i = (f5.length - (i + 1)) + 1 by omega, someL] at hq
   simp only [if_pos (And.intro h0 h1)] at hq
   obtain ⟨b, hq, hn⟩ := Option.bind_eq_some_iff.1 hq
   have HN := mk_ hn
   clear hn HQ
   obtain ⟨ad, X2, e2, X5, e5, ea, hk0, hk1, hk2, hk3, hk4, hk5, hl2, hg2, hl5, hg5⟩ := at_T32 (HF.out.below HB2.out).r5 (i : Int) h0 h1
   subst ea
   obtain ⟨x, hx⟩ : ∃ x, x = rd_T32 f5 (i : Int) := ⟨_, rfl⟩
   rw [← hx] at hk0 hk1 hk2 hk3 hk4 hk5 hl2 hg2 hl5 hg5 hq
   clear hx
   rw [Int.toNat_natCast] at hk0 hk1 hk2 hk3 hk4 hk5
   have p0 : (0 ≤ (i : Int)) = True := eq_true h0
   have p1 : ((i : Int) < (f5.length : Int)) = True := eq_true h1
   have e1_ : wrap64 ((i : Int) + 1) = ((i + 1 : Nat) : Int) := by unfold wrap64; omega
   have HE := mk_ e1_
   clear h0 h1 e1_ hln
   go_wp2
   refine start_ (n := 10) (S := fun w' => w'.cell? ⟨g5, 0, none⟩ = some (.slice A0 ds.length c0) ∧ w'.cell? ⟨g5, 1, none⟩ = some (.slice A1 ts.length c1) ∧ w'.cell? ⟨g5, 2, none⟩ = some (.int .i64 id) ∧ w'.cell? ⟨g5, 3, none⟩ = some (.slice A3 fs.length c3) ∧ w'.cell? ⟨g6, 5, none⟩ = some (.slice (some ad) f5.length c5) ∧ w'.cell? (ad.add (i * 6)) = some (.int .i64 x.f0) ∧ w'.cell? ⟨(ad.add (i * 6)).block, (ad.add (i * 6)).off + 1, none⟩ = some (.string x.f1) ∧ w'.cell? ⟨(ad.add (i * 6)).block, (ad.add (i * 6)).off + 2, none⟩ = some (.slice X2 x.f2.length e2) ∧ w'.cell? ⟨(ad.add (i * 6)).block, (ad.add (i * 6)).off + 3, none⟩ = some (.int .i64 x.f3) ∧ w'.cell? ⟨(ad.add (i * 6)).block, (ad.add (i * 6)).off + 4, none⟩ = some (.int .i64 x.f4) ∧ w'.cell? ⟨(ad.add (i * 6)).block, (ad.add (i * 6)).off + 5, none⟩ = some (.slice X5 x.f5.length e5)) (ds := [9]) (Array.replicate 10 false) (by kernel_rfl) rfl rfl ⟨(blk_cell (blk_drew BX.out.b5.out) 0).trans rfl, (blk_cell (blk_drew BX.out.b5.out) 1).trans rfl, (blk_cell (blk_drew BX.out.b5.out) 2).trans rfl, (blk_cell (blk_drew BX.out.b5.out) 3).trans rfl, (blk_cell (blk_drew BX.out.b6.out) 5).trans rfl, hk0, hk1, hk2, hk3, hk4, hk5⟩ (fun hHeld => ?_)
   refine tk_ 0 (some 72) hHeld ?_
   refine pu_ 1 (some 73) ?_
   refine tk_ 2 (some 74) hHeld ?_
   refine pu_ 3 (some 75) ?_
   refine pu_ 4 (some 76) ?_
   refine tk_ 5 (some 77) hHeld ?_
   refine pu_ 6 (some 78) ?_
   refine pu_ 7 (some 79) ?_
   refine pu_ 8 (some 80) ?_
   refine la_ 9 (some 81) (fun K hK => ?_)
   refine go_ Tryd.func17 #[.agg #[.slice A0 ds.length c0, .slice A1 ts.length c1, .int .i64 id, .slice A3 fs.length c3], .agg #[.int .i64 x.f0, .string x.f1, .slice X2 x.f2.length e2, .int .i64 x.f3, .int .i64 x.f4, .slice X5 x.f5.length e5], .slice AB bnd.length cB, .int .i64 co, .int .i64 m] ?_
   refine (IH A0 c0 A1 c1 A3 c3 x X2 e2 X5 e5 bnd _ _ _ _ _ _ (HW.out.below (below_drew1 HB2.out)) (FR.mk (Kd.C_below hg2 (below_drew (Below.refl _ _))) hl2 (Kd.C_below hg5 (below_drew (Below.refl _ _))) hl5 (HF.out.below (below_drew1 HB2.out)).rB HF.out.lB) hq).mono ?_
   rintro e w3 ⟨rfl, hb⟩
   refine ⟨_, rfl, ?_⟩
   have hbd := (below_drew (Below.refl _ _)).trans hb
   have HB3 := mk_ (below_step HB2.out hbd)
   have BX' := mk_ (BX.out.below hbd)
   clear hb
   refine hK.out _ _ ?_
   clear hK K
   refine no_ (N := some 81) ?_
   refine done_ (by kernel_rfl) ?_
   cases b
   ·go_wp2
    go_roundw
    case rel => exact ⟨i + 1, by rw [HE.out], ⟨by omega⟩, ⟨HN.out⟩, BX', HB3⟩
    case measure => rw [HE.out]; simp only [intOf]; omega
   ·obtain rfl := Option.some.inj HN.out
    go_wp2
    go_ret
    exact ⟨rfl, HB3.out⟩
  ·obtain rfl : i = f5.length := by have := HI.out; omega
   have hq := HQ.out
   rw [Nat.sub_self, someL] at hq
   obtain rfl := Option.some.inj hq
   clear hlt hq hln
   go_wp2
   go_ret
   exact ⟨rfl, HB2.out⟩
theorem rt_op7 {ds : List S73} {ts : List Int} {id : Int} {fs : List S62} {k : Nat} (IH : RTC ds ts id fs k) {A0 : Option Addr} {c0 : Nat} {A1 : Option Addr} {c1 : Nat} {A3 : Option Addr} {c3 : Nat} {f1 : ByteArray} {f2 : List S92} {f3 f4 : Int} {f5 : List S32} {A2 : Option Addr} {c2 : Nat} {A5 : Option Addr} {c5 : Nat} {bnd : List ByteArray} {AB : Option Addr} {cB : Nat} {co m : Int} {r : Bool} {w : World} (hw : WR w A0 c0 ds A1 c1 ts A3 c3 fs) (hf : FR w A2 c2 f2 A5 c5 f5 AB cB bnd) (h : rtG ds ts id fs (k + 1) ⟨7, f1, f2, f3, f4, f5⟩ bnd co m = some r) :
  Calls Tryd.prog 17 #[.agg #[.slice A0 ds.length c0, .slice A1 ts.length c1, .int .i64 id, .slice A3 fs.length c3], .agg #[.int .i64 7, .string f1, .slice A2 f2.length c2, .int .i64 f3, .int .i64 f4, .slice A5 f5.length c5], .slice AB bnd.length cB, .int .i64 co, .int .i64 m] w fun e w' => e = .returned (.bool r) ∧ Below w.heap.size w w' := by
 have HW := mk_ hw
 have HF := mk_ hf
 have HB0 := mk_ (Below.refl w.heap.size w)
 have hu25 := Tryd.underlying25
 have hu28 := Tryd.underlying28
 have hu32 := Tryd.underlying32
 have hu30 := Tryd.underlying30
 have hu60 := Tryd.underlying60
 clear hw hf
 replace h := (show rtG ds ts id fs (k + 1) ⟨7, f1, f2, f3, f4, f5⟩ bnd co m = (if (0 : Int) ≤ 0 ∧ (0 : Int) < (f5.length : Int) then rtG ds ts id fs k (rd_T32 f5 0) bnd co m else none).bind (fun b => if b = true then (if (0 : Int) ≤ 1 ∧ (1 : Int) < (f5.length : Int) then rtG ds ts id fs k (rd_T32 f5 1) bnd co m else none) else some true) by rw [rtG.eq_2]; rfl).symm.trans h
 obtain ⟨b, hq, h⟩ := Option.bind_eq_some_iff.1 h
 split at hq
 case isFalse => cases hq
 rename_i hc
 have HC := mk_ hc.2
 have HQ := mk_ hq
 clear hq hc
 cases b
 ·obtain rfl := Option.some.inj h
  clear h
  go_enter Tryd.func17, Tryd.ntmps17
  go_wp2_with (first | ((with_reducible refine gate_dst (N := 5) rfl ?_); refine bx_ 5 #[.slice A0 ds.length c0, .slice A1 ts.length c1, .int .i64 id, .slice A3 fs.length c3] 28 ?_; intro g5 hg w1 hbox hb; have BK5 := mk_ hbox; have HB1 := mk_ (below_step HB0.out hb); clear hb hbox hg HB0) | ((with_reducible refine gate_dst (N := 6) rfl ?_); refine bx_ 6 #[.int .i64 7, .string f1, .slice A2 f2.length c2, .int .i64 f3, .int .i64 f4, .slice A5 f5.length c5] 32 ?_; intro g6 hg w2 hbox hb; have BX : Aside0 (B2 w2 g5 g6 _ _) := ⟨⟨⟨blk_below BK5.out hb⟩, ⟨hbox⟩⟩⟩; have HB2 := mk_ (below_step HB1.out hb); clear hb hbox hg HB1 BK5; obtain ⟨_, _, _, _, _, _, -, -, -, -, -, -⟩ := hb6_ BX.out.b6))
  have hq := HQ.out
  obtain ⟨ad, X2, e2, X5, e5, ea, hk0, hk1, hk2, hk3, hk4, hk5, hl2, hg2, hl5, hg5⟩ := at_T32 (HF.out.below HB2.out).r5 0 (Int.le_refl _) HC.out
  subst ea
  have hpos : 0 < f5.length := by have := HC.out; omega
  clear HQ
  obtain ⟨x, hx⟩ : ∃ x, x = rd_T32 f5 0 := ⟨_, rfl⟩
  rw [← hx] at hk0 hk1 hk2 hk3 hk4 hk5 hl2 hg2 hl5 hg5 hq
  clear hx
  have ea0 : ad.add ((0 : Int).toNat * 6) = ad := by cases ad; rfl
  rw [ea0] at hk0 hk1 hk2 hk3 hk4 hk5
  clear ea0
  refine start_ (n := 22) (S := fun w' => w'.cell? ⟨g5, 0, none⟩ = some (.slice A0 ds.length c0) ∧ w'.cell? ⟨g5, 1, none⟩ = some (.slice A1 ts.length c1) ∧ w'.cell? ⟨g5, 2, none⟩ = some (.int .i64 id) ∧ w'.cell? ⟨g5, 3, none⟩ = some (.slice A3 fs.length c3) ∧ w'.cell? ⟨g6, 5, none⟩ = some (.slice (some ad) f5.length c5) ∧ w'.cell? ad = some (.int .i64 x.f0) ∧ w'.cell? ⟨ad.block, ad.off + 1, none⟩ = some (.string x.f1) ∧ w'.cell? ⟨ad.block, ad.off + 2, none⟩ = some (.slice X2 x.f2.length e2) ∧ w'.cell? ⟨ad.block, ad.off + 3, none⟩ = some (.int .i64 x.f3) ∧ w'.cell? ⟨ad.block, ad.off + 4, none⟩ = some (.int .i64 x.f4) ∧ w'.cell? ⟨ad.block, ad.off + 5, none⟩ = some (.slice X5 x.f5.length e5)) (ds := [8]) (Array.replicate 22 false) (by kernel_rfl) rfl rfl ⟨(blk_cell (blk_drew BX.out.b5.out) 0).trans rfl, (blk_cell (blk_drew BX.out.b5.out) 1).trans rfl, (blk_cell (blk_drew BX.out.b5.out) 2).trans rfl, (blk_cell (blk_drew BX.out.b5.out) 3).trans rfl, (blk_cell (blk_drew BX.out.b6.out) 5).trans rfl, hk0, hk1, hk2, hk3, hk4, hk5⟩ (fun hHeld => ?_)
  refine tk_ 0 (some 84) hHeld ?_
  refine pu_ 1 (some 85) ?_
  refine tk_ 2 (some 86) hHeld ?_
  refine pu_ 3 (some 87) ?_
  refine tk_ 4 (some 88) hHeld ?_
  refine pu_ 5 (some 89) ?_
  refine pu_ 6 (some 90) ?_
  refine pu_ 7 (some 91) ?_
  refine la_ 8 (some 92) (fun K hK => ?_)
  refine go_ Tryd.func17 #[.agg #[.slice A0 ds.length c0, .slice A1 ts.length c1, .int .i64 id, .slice A3 fs.length c3], .agg #[.int .i64 x.f0, .string x.f1, .slice X2 x.f2.length e2, .int .i64 x.f3, .int .i64 x.f4, .slice X5 x.f5.length e5], .slice AB bnd.length cB, .int .i64 co, .int .i64 m] ?_
  refine (IH A0 c0 A1 c1 A3 c3 x X2 e2 X5 e5 bnd _ _ _ _ _ _ (HW.out.below (below_drew1 HB2.out)) (FR.mk (Kd.C_below hg2 (below_drew (Below.refl _ _))) hl2 (Kd.C_below hg5 (below_drew (Below.refl _ _))) hl5 (HF.out.below (below_drew1 HB2.out)).rB HF.out.lB) hq).mono ?_
  rintro e w3 ⟨rfl, hb⟩
  refine ⟨_, rfl, ?_⟩
  have hbd := (below_drew (Below.refl _ _)).trans hb
  have HB3 := mk_ (below_step HB2.out hbd)
  have BX' := mk_ (BX.out.below hbd)
  clear hb
  refine hK.out _ _ ?_
  clear hK K
  refine no_ (N := some 92) ?_
  refine pu_ 9 (some 93) ?_
  refine pu_ 10 (some 94) ?_
  refine pu_ 11 (some 95) ?_
  refine pu_ 12 (some 96) ?_
  refine pu_ 13 (some 97) ?_
  refine pu_ 14 (some 98) ?_
  refine pu_ 15 (some 99) ?_
  refine pu_ 16 (some 100) ?_
  refine pu_ 17 (some 101) ?_
  refine pu_ 18 (some 102) ?_
  refine pu_ 19 (some 103) ?_
  refine pu_ 20 (some 104) ?_
  refine pu_ 21 (some 10) ?_
  refine done_ (by kernel_rfl) ?_
  go_wp2
  go_ret
  exact ⟨rfl, HB3.out⟩
 ·rw [if_pos rfl] at h
  split at h
  case isFalse => cases h
  rename_i hc
  have HC1 := mk_ hc.2
  have HQ1 := mk_ h
  clear h hc
  go_enter Tryd.func17, Tryd.ntmps17
  go_wp2_with (first | ((with_reducible refine gate_dst (N := 5) rfl ?_); refine bx_ 5 #[.slice A0 ds.length c0, .slice A1 ts.length c1, .int .i64 id, .slice A3 fs.length c3] 28 ?_; intro g5 hg w1 hbox hb; have BK5 := mk_ hbox; have HB1 := mk_ (below_step HB0.out hb); clear hb hbox hg HB0) | ((with_reducible refine gate_dst (N := 6) rfl ?_); refine bx_ 6 #[.int .i64 7, .string f1, .slice A2 f2.length c2, .int .i64 f3, .int .i64 f4, .slice A5 f5.length c5] 32 ?_; intro g6 hg w2 hbox hb; have BX : Aside0 (B2 w2 g5 g6 _ _) := ⟨⟨⟨blk_below BK5.out hb⟩, ⟨hbox⟩⟩⟩; have HB2 := mk_ (below_step HB1.out hb); clear hb hbox hg HB1 BK5; obtain ⟨_, _, _, _, _, _, -, -, -, -, -, -⟩ := hb6_ BX.out.b6))
  have hq := HQ.out
  have hq2 := HQ1.out
  obtain ⟨ad, X2, e2, X5, e5, ea, hk0, hk1, hk2, hk3, hk4, hk5, hl2, hg2, hl5, hg5⟩ := at_T32 (HF.out.below HB2.out).r5 0 (Int.le_refl _) HC.out
  subst ea
  obtain ⟨ad2, Y2, d2, Y5, d5, ea, hj0, hj1, hj2, hj3, hj4, hj5, hn2, hm2, hn5, hm5⟩ := at_T32 (HF.out.below HB2.out).r5 1 (by omega) HC1.out
  obtain rfl := Option.some.inj ea
  have hpos : 0 < f5.length := by have := HC.out; omega
  have hpos1 : 1 < f5.length := by have := HC1.out; omega
  have p1 : ((1 : Int) < (f5.length : Int)) = True := eq_true HC1.out
  clear HQ HQ1 ea
  obtain ⟨x, hx⟩ : ∃ x, x = rd_T32 f5 0 := ⟨_, rfl⟩
  rw [← hx] at hk0 hk1 hk2 hk3 hk4 hk5 hl2 hg2 hl5 hg5 hq
  clear hx
  obtain ⟨y, hy⟩ : ∃ y, y = rd_T32 f5 1 := ⟨_, rfl⟩
  rw [← hy] at hj0 hj1 hj2 hj3 hj4 hj5 hn2 hm2 hn5 hm5 hq2
  clear hy
  have HQ2 := mk_ hq2
  clear hq2
  have ea0 : ad.add ((0 : Int).toNat * 6) = ad := by cases ad; rfl
  rw [ea0] at hk0 hk1 hk2 hk3 hk4 hk5
  clear ea0
  have ea1 : ad.add ((1 : Int).toNat * 6) = ⟨ad.block, ad.off + 6, none⟩ := rfl
  rw [ea1] at hj0 hj1 hj2 hj3 hj4 hj5
  clear ea1
  refine start_ (n := 22) (S := fun w' => w'.cell? ⟨g5, 0, none⟩ = some (.slice A0 ds.length c0) ∧ w'.cell? ⟨g5, 1, none⟩ = some (.slice A1 ts.length c1) ∧ w'.cell? ⟨g5, 2, none⟩ = some (.int .i64 id) ∧ w'.cell? ⟨g5, 3, none⟩ = some (.slice A3 fs.length c3) ∧ w'.cell? ⟨g6, 5, none⟩ = some (.slice (some ad) f5.length c5) ∧ w'.cell? ad = some (.int .i64 x.f0) ∧ w'.cell? ⟨ad.block, ad.off + 1, none⟩ = some (.string x.f1) ∧ w'.cell? ⟨ad.block, ad.off + 2, none⟩ = some (.slice X2 x.f2.length e2) ∧ w'.cell? ⟨ad.block, ad.off + 3, none⟩ = some (.int .i64 x.f3) ∧ w'.cell? ⟨ad.block, ad.off + 4, none⟩ = some (.int .i64 x.f4) ∧ w'.cell? ⟨ad.block, ad.off + 5, none⟩ = some (.slice X5 x.f5.length e5) ∧ w'.cell? ⟨ad.block, ad.off + 6, none⟩ = some (.int .i64 y.f0) ∧ w'.cell? ⟨ad.block, ad.off + 6 + 1, none⟩ = some (.string y.f1) ∧ w'.cell? ⟨ad.block, ad.off + 6 + 2, none⟩ = some (.slice Y2 y.f2.length d2) ∧ w'.cell? ⟨ad.block, ad.off + 6 + 3, none⟩ = some (.int .i64 y.f3) ∧ w'.cell? ⟨ad.block, ad.off + 6 + 4, none⟩ = some (.int .i64 y.f4) ∧ w'.cell? ⟨ad.block, ad.off + 6 + 5, none⟩ = some (.slice Y5 y.f5.length d5)) (ds := [19]) (Array.replicate 22 false) (by kernel_rfl) rfl rfl ⟨(blk_cell (blk_drew BX.out.b5.out) 0).trans rfl, (blk_cell (blk_drew BX.out.b5.out) 1).trans rfl, (blk_cell (blk_drew BX.out.b5.out) 2).trans rfl, (blk_cell (blk_drew BX.out.b5.out) 3).trans rfl, (blk_cell (blk_drew BX.out.b6.out) 5).trans rfl, hk0, hk1, hk2, hk3, hk4, hk5, hj0, hj1, hj2, hj3, hj4, hj5⟩ (fun hHeld => ?_)
  refine tk_ 0 (some 84) hHeld ?_
  refine pu_ 1 (some 85) ?_
  refine tk_ 2 (some 86) hHeld ?_
  refine pu_ 3 (some 87) ?_
  refine tk_ 4 (some 88) hHeld ?_
  refine pu_ 5 (some 89) ?_
  refine pu_ 6 (some 90) ?_
  refine pu_ 7 (some 91) ?_
  refine on_ 8 (some 92) (fun K hK => ?_)
  refine go_ Tryd.func17 #[.agg #[.slice A0 ds.length c0, .slice A1 ts.length c1, .int .i64 id, .slice A3 fs.length c3], .agg #[.int .i64 x.f0, .string x.f1, .slice X2 x.f2.length e2, .int .i64 x.f3, .int .i64 x.f4, .slice X5 x.f5.length e5], .slice AB bnd.length cB, .int .i64 co, .int .i64 m] ?_
  refine (IH A0 c0 A1 c1 A3 c3 x X2 e2 X5 e5 bnd _ _ _ _ _ _ (HW.out.below (below_drew1 HB2.out)) (FR.mk (Kd.C_below hg2 (below_drew (Below.refl _ _))) hl2 (Kd.C_below hg5 (below_drew (Below.refl _ _))) hl5 (HF.out.below (below_drew1 HB2.out)).rB HF.out.lB) hq).mono ?_
  rintro e w3 ⟨rfl, hb⟩
  refine ⟨_, rfl, ?_⟩
  have hbd := (below_drew (Below.refl _ _)).trans hb
  have HB3 := mk_ (below_step HB2.out hbd)
  have BX' := mk_ (BX.out.below hbd)
  clear hb
  refine hK.out _ _ ⟨(blk_cell BX'.out.b5.out 0).trans rfl, (blk_cell BX'.out.b5.out 1).trans rfl, (blk_cell BX'.out.b5.out 2).trans rfl, (blk_cell BX'.out.b5.out 3).trans rfl, (blk_cell BX'.out.b6.out 5).trans rfl, (hbd.cell (World.block_lt_of_cell? _ _ hk0)).trans hk0, (hbd.cell (World.block_lt_of_cell? _ _ hk1)).trans hk1, (hbd.cell (World.block_lt_of_cell? _ _ hk2)).trans hk2, (hbd.cell (World.block_lt_of_cell? _ _ hk3)).trans hk3, (hbd.cell (World.block_lt_of_cell? _ _ hk4)).trans hk4, (hbd.cell (World.block_lt_of_cell? _ _ hk5)).trans hk5, (hbd.cell (World.block_lt_of_cell? _ _ hj0)).trans hj0, (hbd.cell (World.block_lt_of_cell? _ _ hj1)).trans hj1, (hbd.cell (World.block_lt_of_cell? _ _ hj2)).trans hj2, (hbd.cell (World.block_lt_of_cell? _ _ hj3)).trans hj3, (hbd.cell (World.block_lt_of_cell? _ _ hj4)).trans hj4, (hbd.cell (World.block_lt_of_cell? _ _ hj5)).trans hj5⟩ (fun hHeld => ?_)
  clear hK K
  refine no_ (N := some 92) ?_
  refine pu_ 9 (some 93) ?_
  refine pu_ 10 (some 94) ?_
  refine tk_ 11 (some 95) hHeld ?_
  refine pu_ 12 (some 96) ?_
  refine tk_ 13 (some 97) hHeld ?_
  refine pu_ 14 (some 98) ?_
  refine tk_ 15 (some 99) hHeld ?_
  refine pu_ 16 (some 100) ?_
  refine pu_ 17 (some 101) ?_
  refine pu_ 18 (some 102) ?_
  refine la_ 19 (some 103) (fun K hK => ?_)
  refine go_ Tryd.func17 #[.agg #[.slice A0 ds.length c0, .slice A1 ts.length c1, .int .i64 id, .slice A3 fs.length c3], .agg #[.int .i64 y.f0, .string y.f1, .slice Y2 y.f2.length d2, .int .i64 y.f3, .int .i64 y.f4, .slice Y5 y.f5.length d5], .slice AB bnd.length cB, .int .i64 co, .int .i64 m] ?_
  refine (IH A0 c0 A1 c1 A3 c3 y Y2 d2 Y5 d5 _ _ _ _ _ _ _ (HW.out.below HB3.out) (FR.mk (Kd.C_below hm2 hbd) hn2 (Kd.C_below hm5 hbd) hn5 (HF.out.below HB3.out).rB HF.out.lB) HQ2.out).mono ?_
  rintro e w4 ⟨rfl, hb⟩
  refine ⟨_, rfl, ?_⟩
  have HB4 := mk_ (below_step HB3.out hb)
  clear hb
  refine hK.out _ _ ?_
  clear hK K
  refine no_ (N := some 103) ?_
  refine pu_ 20 (some 104) ?_
  refine pu_ 21 (some 10) ?_
  refine done_ (by kernel_rfl) ?_
  go_wp2
  go_ret
  exact ⟨rfl, HB4.out⟩
theorem rw_any {ds : List S73} {ts : List Int} {id : Int} {fs : List S62} {k : Nat} (IH : RTC ds ts id fs k) {A0 : Option Addr} {c0 : Nat} {A1 : Option Addr} {c1 : Nat} {A3 : Option Addr} {c3 : Nat} {f0 : Int} {so : Bool} (hso : (f0 == 9) = so) {f1 : ByteArray} {f2 : List S92} {f3 f4 : Int} {f5 : List S32} {A2 : Option Addr} {c2 : Nat} {A5 : Option Addr} {c5 : Nat} {bnd : List ByteArray} {AB : Option Addr} {cB : Nat} {co m : Int} {r : (ByteArray × Bool)} {w : World} (hw : WR w A0 c0 ds A1 c1 ts A3 c3 fs) (hf : FR w A2 c2 f2 A5 c5 f5 AB cB bnd) (h : rwG ds ts id fs k so f1 f5 bnd co m = some r) :
  Calls Tryd.prog 29 #[.agg #[.slice A0 ds.length c0, .slice A1 ts.length c1, .int .i64 id, .slice A3 fs.length c3], .agg #[.int .i64 f0, .string f1, .slice A2 f2.length c2, .int .i64 f3, .int .i64 f4, .slice A5 f5.length c5], .slice AB bnd.length cB, .int .i64 co, .int .i64 m] w fun e w' => e = .returned (.tuple #[.string r.1, .bool r.2]) ∧ Below w.heap.size w w' := by
 have HW := mk_ hw
 have HF := mk_ hf
 have HB0 := mk_ (Below.refl w.heap.size w)
 have hu25 := Tryd.underlying25
 have hu28 := Tryd.underlying28
 have hu32 := Tryd.underlying32
 have hu30 := Tryd.underlying30
 have hu60 := Tryd.underlying60
 clear hw hf
 have HSO := mk_ hso
 clear hso
 unfold rwG at h
 obtain ⟨⟨ns, ok⟩, hi, h⟩ := Option.bind_eq_some_iff.1 h
 split at h
 case isFalse => cases h
 rename_i hc
 have HI := mk_ hi
 have HPOS := mk_ hc.1
 have HLN : Aside0 (ns.length < 4398046511104 ∧ bnd.length < 4398046511104) := ⟨hc.2⟩
 have HQ0 : Aside0 (witQ so (fun s => rtG ds ts id fs k (rd_T32 f5 0) (bnd ++ [s]) co m) (ns.drop 0) = some r) := ⟨h⟩
 clear h hi hc
 go_enter Tryd.func29, Tryd.ntmps29
 go_wp2_with (first | ((with_reducible refine gate_dst (N := 5) rfl ?_); refine bx_ 5 #[.slice A0 ds.length c0, .slice A1 ts.length c1, .int .i64 id, .slice A3 fs.length c3] 28 ?_; intro g5 hg w1 hbox hb; have BK5 := mk_ hbox; have HB1 := mk_ (below_step HB0.out hb); clear hb hbox hg HB0) | ((with_reducible refine gate_dst (N := 6) rfl ?_); refine bx_ 6 #[.int .i64 f0, .string f1, .slice A2 f2.length c2, .int .i64 f3, .int .i64 f4, .slice A5 f5.length c5] 32 ?_; intro g6 hg w2 hbox hb; have BX : Aside0 (B2 w2 g5 g6 _ _) := ⟨⟨⟨blk_below BK5.out hb⟩, ⟨hbox⟩⟩⟩; have HB2 := mk_ (below_step HB1.out hb); clear hb hbox hg HB1 BK5; obtain ⟨_, _, _, _, _, _, -, -, -, -, -, -⟩ := hb6_ BX.out.b6; obtain ⟨_, _, _, _, -, -, -, -⟩ := hb4_ BX.out.b5) | (go_at_call 48; refine (pentaglotref26_Individuals.calls k (fun k_ => k_ < w2.heap.size) _ _ ds _ _ ts id f1 ns ok _ (Kd.V_mk HW.out.l0 (Kd.C_F k73_heap (HW.out.below HB2.out).r0)) (HW.out.below HB2.out).r1 HW.out.l1 HI.out).mono ?_; rintro e w3 ⟨v, rfl, hv, hb⟩; obtain ⟨AN, cN, rfl, lN, fN⟩ := hv; have HNS := mk_ (Kd.F_now fN); replace BX := mk_ (BX.out.below hb); have HR := mk_ ((HF.out.below HB2.out).below hb); have HBw := mk_ (below_step HB2.out hb); clear hb lN fN HB2))
 go_loopw [14] (fun v wr => ∃ i : Nat, v = .int .i64 (i : Int) ∧ Aside0 (i ≤ ns.length) ∧ Aside0 (witQ so (fun s => rtG ds ts id fs k (rd_T32 f5 0) (bnd ++ [s]) co m) (ns.drop i) = some r) ∧ Aside0 (B2 wr g5 g6 #[.slice A0 ds.length c0, .slice A1 ts.length c1, .int .i64 id, .slice A3 fs.length c3] #[.int .i64 f0, .string f1, .slice A2 f2.length c2, .int .i64 f3, .int .i64 f4, .slice A5 f5.length c5]) ∧ Aside0 (FR wr A2 c2 f2 A5 c5 f5 AB cB bnd) ∧ Aside0 (Kd.C Kd.string wr AN ns.length ns) ∧ Aside0 (Below w.heap.size w wr)) (fun v _ => ns.length - (intOf v).toNat)
 case atStart => exact ⟨0, rfl, ⟨Nat.zero_le _⟩, HQ0, BX, HR, HNS, HBw⟩
 case round =>
  clear HQ0 BX HR HNS HBw
  obtain ⟨i, rfl, HIL, HQ, BX, HR, HNS, HBw⟩ := hrel
  have hln := HLN.out
  by_cases hlt : i < ns.length
  ·have h0 : (0 : Int) ≤ (i : Int) := by omega
   have h1 : (i : Int) < (ns.length : Int) := by omega
   have hq := HQ.out
   rw [List.drop_eq_getElem_cons hlt, witQ] at hq
   obtain ⟨b, hq, hn⟩ := Option.bind_eq_some_iff.1 hq
   have HN := mk_ hn
   clear hn HQ
   obtain ⟨an, rfl, hs⟩ := Kd.at_string HNS.out (i : Int) h0 h1
   have hrd : rdOf ByteArray.empty ns (i : Int) = ns[i] := by unfold rdOf; rw [Int.toNat_natCast, List.getD_eq_getElem?_getD, List.getElem?_eq_getElem hlt]; rfl
   rw [hrd, Int.toNat_natCast] at hs
   obtain ⟨s, hsx⟩ : ∃ s, s = ns[i] := ⟨_, rfl⟩
   rw [← hsx] at hs hq HN
   have p0 : (0 ≤ (i : Int)) = True := eq_true h0
   have p1 : ((i : Int) < (ns.length : Int)) = True := eq_true h1
   have e1_ : wrap64 ((i : Int) + 1) = ((i + 1 : Nat) : Int) := by unfold wrap64; omega
   have HE := mk_ e1_
   clear h0 h1 e1_ hln hrd hsx
   go_wp2
   have HBr := mk_ (below_drew (Below.refl wr.heap.size wr))
   refine start_ (n := 10) (S := fun w' => w'.cell? (an.add i) = some (.string s)) (ds := []) (Array.replicate 10 false) (by kernel_rfl) rfl rfl ((HBr.out.cell (World.block_lt_of_cell? _ _ hs)).trans hs) (fun hHeld => ?_)
   generalize wr.drew = W6 at HBr hHeld ⊢
   refine pu_ 1 (some 31) ?_
   refine pu_ 3 (some 33) ?_
   refine pu_ 4 (some 34) ?_
   refine pu_ 5 (some 35) ?_
   refine tk_ 6 (some 36) hHeld ?_
   refine join_ (σ := Value × Value × Value) 2 #[true, true, true, true, true, true, true, true, false, false] (fun s_ => [(30, s_.1), (32, s_.2.1), (37, s_.2.2)]) (fun s_ w' => (w'.cell? (an.add i) = some (.string s)) ∧ Below wr.heap.size wr w' ∧ Kd.R Kd.string 9 w' wr.heap.size (fun _ => True) s_.2.1 bnd ∧ Kd.R Kd.string 9 w' wr.heap.size (fun k_ => True ∧ some k_ ≠ s_.2.1.ownBlock) s_.2.2 [s]) ?_ ?_
   rotate_left
   ·intro hCont
    refine two_ (i := 0) (j := 7) (Ni := some 30) (Nj := some 37) #[true, true, false, true, true, true, true, false, false, false] #[false, true, false, true, true, true, true, true, false, false] rfl rfl rfl rfl (by kernel_rfl) (by decide) (by decide) (fun K hK => ?_) (fun K hK => ?_)
    ·skip
     refine Kd.R_lit_step Kd.string _ 9 ?hg (N := 30) ?hd (xs := ([] : List ByteArray)) (inner := []) (ok := fun _ => True) (okp := fun _ => False) ?hr ?hp (fun _ hk => hk.elim) trivial (Below.refl _ _) (Nat.le_refl _) (by simp) ?_; (case hd => rfl); (case hg => rfl); (case hr => first | (go_simp; done) | (go_simp; rfl)); (case hp => exact (Reps.none _ _))
     intro vO W1 hN hb hg_ hnew_
     have NA := mk_ (Kd.R_lower hN HBr.out.size)
     replace HBr := mk_ (HBr.out.trans (hb.mono HBr.out.size))
     clear hN hb hg_ hnew_
     refine hK.out _ _ ((HBr.out.cell (World.block_lt_of_cell? _ _ hs)).trans hs) (fun hHeld => ?_)
     clear hK K
     refine no_ (N := some 30) ?_
     refine two_ (i := 2) (j := 7) (Ni := some 32) (Nj := some 37) #[true, true, true, true, true, true, true, false, false, false] #[true, true, false, true, true, true, true, true, false, false] rfl rfl rfl rfl (by kernel_rfl) (by decide) (by decide) (fun K hK => ?_) (fun K hK => ?_)
     ·skip
      refine Kd.R_append_rows_step Kd.string (Rr := Kd.string.K _) (w0 := wr) wr.heap.size (by rfl) (.tmp 30) (.tmp 31) 60 9 (.string ⟨#[]⟩) 16 rfl Tryd.underlying60 info9 rfl (by decide) (by omega) vO ([] : List ByteArray) bnd _ _ _ (fun _ => True) (fun _ => False) rfl rfl NA.out (Kd.C_below HR.out.rB HBr.out) (fun _ _ h => h) (fun _ hk => hk.elim) (fun _ _ => trivial) HBr.out HBr.out.size (by have := HLN.out; simp; omega) ?_
      intro vA W1 hN hb hg hat
      replace HBr := mk_ hb
      replace NA := mk_ hN
      clear hN hb hg hat
      refine hK.out _ _ ((HBr.out.cell (World.block_lt_of_cell? _ _ hs)).trans hs) (fun hHeld => ?_)
      clear hK K
      refine no_ (N := some 32) ?_
      refine on_ 7 (some 37) (fun K hK => ?_)
      refine Kd.R_lit_step Kd.string _ 9 ?hg (N := 37) ?hd (xs := [s]) (inner := [.string s]) (ok := (fun k_ => True ∧ some k_ ≠ vA.ownBlock)) (okp := fun _ => False) ?hr ?hp (fun _ hk => hk.elim) ⟨trivial, fun he => by have := Kd.R_lt NA.out _ he.symm; omega⟩ (Below.refl _ _) (Nat.le_refl _) (by simp) ?_; (case hd => rfl); (case hg => rfl); (case hr => first | (go_simp; done) | (go_simp; rfl)); (case hp => exact (Reps.one (show Kd.M Kd.string _ _ _ s [.string s] from rfl) (Reps.none _ _)))
      intro vC W1 hN hb hg_ hnew_
      replace NA := mk_ (Kd.R_below NA.out hb)
      have NB := mk_ (Kd.R_lower hN HBr.out.size)
      replace HBr := mk_ (HBr.out.trans (hb.mono HBr.out.size))
      clear hN hb hg_ hnew_
      refine hK.out _ _ ((HBr.out.cell (World.block_lt_of_cell? _ _ hs)).trans hs) (fun hHeld => ?_)
      clear hK K
      refine no_ (N := some 37) ?_
      exact norm_ (by simp only [putAll, Act.put, List.setIfInBounds_toArray, List.set_cons_zero, List.set_cons_succ]) (hCont (vO, vA, vC) _ ⟨hHeld, HBr.out, NA.out, NB.out⟩)
     ·skip
      refine Kd.R_lit_step Kd.string _ 9 ?hg (N := 37) ?hd (xs := [s]) (inner := [.string s]) (ok := (fun k_ => True ∧ some k_ ≠ vO.ownBlock)) (okp := fun _ => False) ?hr ?hp (fun _ hk => hk.elim) ⟨trivial, fun he => by have := Kd.R_lt NA.out _ he.symm; omega⟩ (Below.refl _ _) (Nat.le_refl _) (by simp) ?_; (case hd => rfl); (case hg => rfl); (case hr => first | (go_simp; done) | (go_simp; rfl)); (case hp => exact (Reps.one (show Kd.M Kd.string _ _ _ s [.string s] from rfl) (Reps.none _ _)))
      intro vC W1 hN hb hg_ hnew_
      replace NA := mk_ (Kd.R_below NA.out hb)
      have NB := mk_ (Kd.R_lower hN HBr.out.size)
      replace HBr := mk_ (HBr.out.trans (hb.mono HBr.out.size))
      clear hN hb hg_ hnew_
      refine hK.out _ _ ((HBr.out.cell (World.block_lt_of_cell? _ _ hs)).trans hs) (fun hHeld => ?_)
      clear hK K
      refine no_ (N := some 37) ?_
      refine on_ 2 (some 32) (fun K hK => ?_)
      refine Kd.R_append_rows_step Kd.string (Rr := Kd.string.K _) (w0 := wr) wr.heap.size (by rfl) (.tmp 30) (.tmp 31) 60 9 (.string ⟨#[]⟩) 16 rfl Tryd.underlying60 info9 rfl (by decide) (by omega) vO ([] : List ByteArray) bnd _ _ _ (fun _ => True) (fun _ => False) rfl rfl NA.out (Kd.C_below HR.out.rB HBr.out) (fun _ _ h => h) (fun _ hk => hk.elim) (fun _ _ => trivial) HBr.out HBr.out.size (by have := HLN.out; simp; omega) ?_
      intro vA W1 hN hb hg hat
      replace NB := mk_ (Kd.R_after NB.out hg hat)
      replace HBr := mk_ hb
      replace NA := mk_ hN
      clear hN hb hg hat
      refine hK.out _ _ ((HBr.out.cell (World.block_lt_of_cell? _ _ hs)).trans hs) (fun hHeld => ?_)
      clear hK K
      refine no_ (N := some 32) ?_
      exact norm_ (by simp only [putAll, Act.put, List.setIfInBounds_toArray, List.set_cons_zero, List.set_cons_succ]) (hCont (vO, vA, vC) _ ⟨hHeld, HBr.out, NA.out, NB.out⟩)
    ·skip
     refine Kd.R_lit_step Kd.string _ 9 ?hg (N := 37) ?hd (xs := [s]) (inner := [.string s]) (ok := (fun _ => True)) (okp := fun _ => False) ?hr ?hp (fun _ hk => hk.elim) trivial (Below.refl _ _) (Nat.le_refl _) (by simp) ?_; (case hd => rfl); (case hg => rfl); (case hr => first | (go_simp; done) | (go_simp; rfl)); (case hp => exact (Reps.one (show Kd.M Kd.string _ _ _ s [.string s] from rfl) (Reps.none _ _)))
     intro vC W1 hN hb hg_ hnew_
     have NB := mk_ (Kd.R_lower hN HBr.out.size)
     replace HBr := mk_ (HBr.out.trans (hb.mono HBr.out.size))
     clear hN hb hg_ hnew_
     refine hK.out _ _ ((HBr.out.cell (World.block_lt_of_cell? _ _ hs)).trans hs) (fun hHeld => ?_)
     clear hK K
     refine no_ (N := some 37) ?_
     refine on_ 0 (some 30) (fun K hK => ?_)
     refine Kd.R_lit_step Kd.string _ 9 ?hg (N := 30) ?hd (xs := ([] : List ByteArray)) (inner := []) (ok := fun _ => True) (okp := fun _ => False) ?hr ?hp (fun _ hk => hk.elim) trivial (Below.refl _ _) (Nat.le_refl _) (by simp) ?_; (case hd => rfl); (case hg => rfl); (case hr => first | (go_simp; done) | (go_simp; rfl)); (case hp => exact (Reps.none _ _))
     intro vO W1 hN hb hg_ hnew_
     replace NB := mk_ (Kd.R_elder' NB.out (Kd.R_base hN) hb)
     have NA := mk_ (Kd.R_lower hN HBr.out.size)
     replace HBr := mk_ (HBr.out.trans (hb.mono HBr.out.size))
     clear hN hb hg_ hnew_
     refine hK.out _ _ ((HBr.out.cell (World.block_lt_of_cell? _ _ hs)).trans hs) (fun hHeld => ?_)
     clear hK K
     refine no_ (N := some 30) ?_
     refine on_ 2 (some 32) (fun K hK => ?_)
     refine Kd.R_append_rows_step Kd.string (Rr := Kd.string.K _) (w0 := wr) wr.heap.size (by rfl) (.tmp 30) (.tmp 31) 60 9 (.string ⟨#[]⟩) 16 rfl Tryd.underlying60 info9 rfl (by decide) (by omega) vO ([] : List ByteArray) bnd _ _ _ (fun _ => True) (fun _ => False) rfl rfl NA.out (Kd.C_below HR.out.rB HBr.out) (fun _ _ h => h) (fun _ hk => hk.elim) (fun _ _ => trivial) HBr.out HBr.out.size (by have := HLN.out; simp; omega) ?_
     intro vA W1 hN hb hg hat
     replace NB := mk_ (Kd.R_after NB.out hg hat)
     replace HBr := mk_ hb
     replace NA := mk_ hN
     clear hN hb hg hat
     refine hK.out _ _ ((HBr.out.cell (World.block_lt_of_cell? _ _ hs)).trans hs) (fun hHeld => ?_)
     clear hK K
     refine no_ (N := some 32) ?_
     exact norm_ (by simp only [putAll, Act.put, List.setIfInBounds_toArray, List.set_cons_zero, List.set_cons_succ]) (hCont (vO, vA, vC) _ ⟨hHeld, HBr.out, NA.out, NB.out⟩)
   rintro ⟨vO, vA, vC⟩ W7 ⟨hHeld, hD7, hA7, hB7⟩
   dsimp only at hA7 hB7
   obtain ⟨Ae, ce, rfl⟩ := Kd.R_slice hB7
   replace HBr := mk_ hD7
   have NA := mk_ hA7
   have NB := mk_ hB7
   clear hD7 hA7 hB7
   refine norm_ (a' := ?_) ?_ ?_
   rotate_left
   ·simp only [putAll, Act.put, List.setIfInBounds_toArray, List.set_cons_zero, List.set_cons_succ]
    rfl
   refine on_ 8 (some 38) (fun K hK => ?_)
   refine Kd.R_append_rows_step Kd.string (Rr := Kd.string.K _) (w0 := wr) wr.heap.size (by rfl) (.tmp 32) (.tmp 37) 60 9 (.string ⟨#[]⟩) 16 rfl Tryd.underlying60 info9 rfl (by decide) (by omega) vA bnd [s] _ _ _ (fun _ => True) (fun _ => False) rfl rfl NA.out (Kd.R_reads' NB.out).2.2 (fun _ _ h => h) (fun _ hk => hk.elim) (fun _ _ => trivial) HBr.out HBr.out.size (by have := HLN.out; simp; omega) ?_
   intro vR W8 hN hb hg hat
   replace HBr := mk_ hb
   replace NA := mk_ hN
   clear hN hb hg hat NB
   refine hK.out _ _ ((HBr.out.cell (World.block_lt_of_cell? _ _ hs)).trans hs) (fun hHeld => ?_)
   clear hK K
   refine no_ (N := some 38) ?_
   obtain ⟨bx, hbx⟩ : ∃ bx : List ByteArray, bnd ++ [s] = bx := ⟨_, rfl⟩
   rw [hbx] at NA hq
   obtain ⟨Ai, ci, rfl⟩ := Kd.R_slice NA.out
   refine pu_ 9 (some 15) ?_
   refine done_ (by kernel_rfl) ?_
   clear hHeld
   replace BX := mk_ (BX.out.below HBr.out)
   replace HR := mk_ (HR.out.below HBr.out)
   replace HNS := mk_ (Kd.C_below HNS.out HBr.out)
   have hso := HSO.out
   replace hs := (HBr.out.cell (World.block_lt_of_cell? _ _ hs)).trans hs
   have HBi := mk_ (Kd.R_reads' NA.out).2
   have HBw2 := mk_ (below_step HBw.out HBr.out)
   clear HBw HBr NA hbx
   go_wp2
   obtain ⟨ad, X2, e2, X5, e5, ea, hk0, hk1, hk2, hk3, hk4, hk5, hl2, hg2, hl5, hg5⟩ := at_T32 HR.out.r5 0 (Int.le_refl _) (by have := HPOS.out; omega)
   subst ea
   have hpos : 0 < f5.length := HPOS.out
   obtain ⟨x, hx⟩ : ∃ x, x = rd_T32 f5 0 := ⟨_, rfl⟩
   rw [← hx] at hk0 hk1 hk2 hk3 hk4 hk5 hl2 hg2 hl5 hg5 hq
   clear hx
   have ea0 : ad.add ((0 : Int).toNat * 6) = ad := by cases ad; rfl
   rw [ea0] at hk0 hk1 hk2 hk3 hk4 hk5
   clear ea0
   refine start_ (n := 13) (S := fun w' => w'.cell? ⟨g5, 0, none⟩ = some (.slice A0 ds.length c0) ∧ w'.cell? ⟨g5, 1, none⟩ = some (.slice A1 ts.length c1) ∧ w'.cell? ⟨g5, 2, none⟩ = some (.int .i64 id) ∧ w'.cell? ⟨g5, 3, none⟩ = some (.slice A3 fs.length c3) ∧ w'.cell? ⟨g6, 5, none⟩ = some (.slice (some ad) f5.length c5) ∧ w'.cell? ⟨g6, 0, none⟩ = some (.int .i64 f0) ∧ w'.cell? ad = some (.int .i64 x.f0) ∧ w'.cell? ⟨ad.block, ad.off + 1, none⟩ = some (.string x.f1) ∧ w'.cell? ⟨ad.block, ad.off + 2, none⟩ = some (.slice X2 x.f2.length e2) ∧ w'.cell? ⟨ad.block, ad.off + 3, none⟩ = some (.int .i64 x.f3) ∧ w'.cell? ⟨ad.block, ad.off + 4, none⟩ = some (.int .i64 x.f4) ∧ w'.cell? ⟨ad.block, ad.off + 5, none⟩ = some (.slice X5 x.f5.length e5)) (ds := []) (Array.replicate 13 false) (by kernel_rfl) rfl rfl ⟨(blk_cell (blk_drew BX.out.b5.out) 0).trans rfl, (blk_cell (blk_drew BX.out.b5.out) 1).trans rfl, (blk_cell (blk_drew BX.out.b5.out) 2).trans rfl, (blk_cell (blk_drew BX.out.b5.out) 3).trans rfl, (blk_cell (blk_drew BX.out.b6.out) 5).trans rfl, (blk_cell (blk_drew BX.out.b6.out) 0).trans rfl, hk0, hk1, hk2, hk3, hk4, hk5⟩ (fun hHeld => ?_)
   refine tk_ 0 (some 39) hHeld ?_
   refine pu_ 1 (some 40) ?_
   refine tk_ 2 (some 41) hHeld ?_
   refine pu_ 3 (some 42) ?_
   refine tk_ 4 (some 43) hHeld ?_
   refine pu_ 5 (some 44) ?_
   refine pu_ 6 (some 45) ?_
   refine pu_ 7 (some 46) ?_
   refine pu_ 9 (some 48) ?_
   refine tk_ 10 (some 49) hHeld ?_
   refine pu_ 11 (some 50) ?_
   refine on_ 8 (some 47) (fun K hK => ?_)
   refine go_ Tryd.func17 #[.agg #[.slice A0 ds.length c0, .slice A1 ts.length c1, .int .i64 id, .slice A3 fs.length c3], .agg #[.int .i64 x.f0, .string x.f1, .slice X2 x.f2.length e2, .int .i64 x.f3, .int .i64 x.f4, .slice X5 x.f5.length e5], .slice Ai bx.length ci, .int .i64 co, .int .i64 m] ?_
   refine (IH A0 c0 A1 c1 A3 c3 x X2 e2 X5 e5 bx _ _ _ _ _ _ (HW.out.below (below_drew1 HBw2.out)) (FR.mk (Kd.C_below hg2 (below_drew (Below.refl _ _))) hl2 (Kd.C_below hg5 (below_drew (Below.refl _ _))) hl5 (Kd.C_below HBi.out.2 (below_drew (Below.refl _ _))) HBi.out.1) hq).mono ?_
   rintro e w9 ⟨rfl, hb⟩
   refine ⟨_, rfl, ?_⟩
   have hbd := (below_drew (Below.refl _ _)).trans hb
   have HBw3 := mk_ (below_step HBw2.out hbd)
   have BX' := mk_ (BX.out.below hbd)
   have HR' := mk_ (HR.out.below hbd)
   have HNS' := mk_ (Kd.C_below HNS.out hbd)
   have hs' := (hbd.cell (World.block_lt_of_cell? _ _ hs)).trans hs
   clear hb
   refine hK.out _ _ ⟨(blk_cell BX'.out.b5.out 0).trans rfl, (blk_cell BX'.out.b5.out 1).trans rfl, (blk_cell BX'.out.b5.out 2).trans rfl, (blk_cell BX'.out.b5.out 3).trans rfl, (blk_cell BX'.out.b6.out 5).trans rfl, (blk_cell BX'.out.b6.out 0).trans rfl, (hbd.cell (World.block_lt_of_cell? _ _ hk0)).trans hk0, (hbd.cell (World.block_lt_of_cell? _ _ hk1)).trans hk1, (hbd.cell (World.block_lt_of_cell? _ _ hk2)).trans hk2, (hbd.cell (World.block_lt_of_cell? _ _ hk3)).trans hk3, (hbd.cell (World.block_lt_of_cell? _ _ hk4)).trans hk4, (hbd.cell (World.block_lt_of_cell? _ _ hk5)).trans hk5⟩ (fun hHeld => ?_)
   clear hK K
   refine no_ (N := some 47) ?_
   refine pu_ 12 (some 51) ?_
   refine done_ (by kernel_rfl) ?_
   clear hso
   have hN := HN.out
   clear HN
   cases b <;> cases so
   ·obtain rfl := Option.some.inj hN
    go_wp2
    go_ret2
    exact ⟨rfl, HBw3.out⟩
   ·go_wp2
    go_roundw
    case rel => exact ⟨i + 1, by rw [HE.out], ⟨by omega⟩, ⟨hN⟩, BX', HR', HNS', HBw3⟩
    case measure => rw [HE.out]; simp only [intOf]; omega
   ·go_wp2
    go_roundw
    case rel => exact ⟨i + 1, by rw [HE.out], ⟨by omega⟩, ⟨hN⟩, BX', HR', HNS', HBw3⟩
    case measure => rw [HE.out]; simp only [intOf]; omega
   ·obtain rfl := Option.some.inj hN
    go_wp2
    go_ret2
    exact ⟨rfl, HBw3.out⟩
  ·obtain rfl : i = ns.length := by have := HIL.out; omega
   have hq := HQ.out
   rw [List.drop_length, witQ] at hq
   obtain rfl := Option.some.inj hq
   clear hlt hq hln
   go_wp2
   go_ret2
   exact ⟨rfl, HBw.out⟩
theorem rt_op8 {ds : List S73} {ts : List Int} {id : Int} {fs : List S62} {k : Nat} (IH : RTC ds ts id fs k) {A0 : Option Addr} {c0 : Nat} {A1 : Option Addr} {c1 : Nat} {A3 : Option Addr} {c3 : Nat} {f1 : ByteArray} {f2 : List S92} {f3 f4 : Int} {f5 : List S32} {A2 : Option Addr} {c2 : Nat} {A5 : Option Addr} {c5 : Nat} {bnd : List ByteArray} {AB : Option Addr} {cB : Nat} {co m : Int} {r : Bool} {w : World} (hw : WR w A0 c0 ds A1 c1 ts A3 c3 fs) (hf : FR w A2 c2 f2 A5 c5 f5 AB cB bnd) (h : rtG ds ts id fs (k + 1) ⟨8, f1, f2, f3, f4, f5⟩ bnd co m = some r) :
  Calls Tryd.prog 17 #[.agg #[.slice A0 ds.length c0, .slice A1 ts.length c1, .int .i64 id, .slice A3 fs.length c3], .agg #[.int .i64 8, .string f1, .slice A2 f2.length c2, .int .i64 f3, .int .i64 f4, .slice A5 f5.length c5], .slice AB bnd.length cB, .int .i64 co, .int .i64 m] w fun e w' => e = .returned (.bool r) ∧ Below w.heap.size w w' := by
 have HW := mk_ hw
 have HF := mk_ hf
 have HB0 := mk_ (Below.refl w.heap.size w)
 have hu25 := Tryd.underlying25
 have hu28 := Tryd.underlying28
 have hu32 := Tryd.underlying32
 have hu30 := Tryd.underlying30
 have hu60 := Tryd.underlying60
 clear hw hf
 replace h := (show rtG ds ts id fs (k + 1) ⟨8, f1, f2, f3, f4, f5⟩ bnd co m = (rwG ds ts id fs k false f1 f5 bnd co m).bind (fun r => some (!r.2)) by rw [rtG.eq_2]; rfl).symm.trans h
 obtain ⟨⟨s, b⟩, hq, h⟩ := Option.bind_eq_some_iff.1 h
 obtain rfl := Option.some.inj h
 have HQ := mk_ hq
 clear h hq
 go_enter Tryd.func17, Tryd.ntmps17
 go_wp2_with (first | ((with_reducible refine gate_dst (N := 5) rfl ?_); refine bx_ 5 #[.slice A0 ds.length c0, .slice A1 ts.length c1, .int .i64 id, .slice A3 fs.length c3] 28 ?_; intro g5 hg w1 hbox hb; have BK5 := mk_ hbox; have HB1 := mk_ (below_step HB0.out hb); clear hb hbox hg HB0) | ((with_reducible refine gate_dst (N := 6) rfl ?_); refine bx_ 6 #[.int .i64 8, .string f1, .slice A2 f2.length c2, .int .i64 f3, .int .i64 f4, .slice A5 f5.length c5] 32 ?_; intro g6 hg w2 hbox hb; have BX : Aside0 (B2 w2 g5 g6 _ _) := ⟨⟨⟨blk_below BK5.out hb⟩, ⟨hbox⟩⟩⟩; have HB2 := mk_ (below_step HB1.out hb); clear hb hbox hg HB1 BK5; obtain ⟨_, _, _, _, _, _, -, -, -, -, -, -⟩ := hb6_ BX.out.b6; obtain ⟨_, _, _, _, -, -, -, -⟩ := hb4_ BX.out.b5) | (go_at_call 29; refine (rw_any (f0 := 8) (so := false) IH rfl (HW.out.below HB2.out) (HF.out.below HB2.out) HQ.out).mono ?_; rintro e w3 ⟨rfl, hb⟩; have HB3 := mk_ (below_step HB2.out hb); replace BX := mk_ (BX.out.below hb); obtain ⟨_, _, _, _, _, _, -, -, -, -, -, -⟩ := hb6_ BX.out.b6; clear hb))
 go_ret
 exact ⟨by cases b <;> rfl, HB3.out⟩
theorem rt_op9 {ds : List S73} {ts : List Int} {id : Int} {fs : List S62} {k : Nat} (IH : RTC ds ts id fs k) {A0 : Option Addr} {c0 : Nat} {A1 : Option Addr} {c1 : Nat} {A3 : Option Addr} {c3 : Nat} {f1 : ByteArray} {f2 : List S92} {f3 f4 : Int} {f5 : List S32} {A2 : Option Addr} {c2 : Nat} {A5 : Option Addr} {c5 : Nat} {bnd : List ByteArray} {AB : Option Addr} {cB : Nat} {co m : Int} {r : Bool} {w : World} (hw : WR w A0 c0 ds A1 c1 ts A3 c3 fs) (hf : FR w A2 c2 f2 A5 c5 f5 AB cB bnd) (h : rtG ds ts id fs (k + 1) ⟨9, f1, f2, f3, f4, f5⟩ bnd co m = some r) :
  Calls Tryd.prog 17 #[.agg #[.slice A0 ds.length c0, .slice A1 ts.length c1, .int .i64 id, .slice A3 fs.length c3], .agg #[.int .i64 9, .string f1, .slice A2 f2.length c2, .int .i64 f3, .int .i64 f4, .slice A5 f5.length c5], .slice AB bnd.length cB, .int .i64 co, .int .i64 m] w fun e w' => e = .returned (.bool r) ∧ Below w.heap.size w w' := by
 have HW := mk_ hw
 have HF := mk_ hf
 have HB0 := mk_ (Below.refl w.heap.size w)
 have hu25 := Tryd.underlying25
 have hu28 := Tryd.underlying28
 have hu32 := Tryd.underlying32
 have hu30 := Tryd.underlying30
 have hu60 := Tryd.underlying60
 clear hw hf
 replace h := (show rtG ds ts id fs (k + 1) ⟨9, f1, f2, f3, f4, f5⟩ bnd co m = (rwG ds ts id fs k true f1 f5 bnd co m).bind (fun r => some (r.2)) by rw [rtG.eq_2]; rfl).symm.trans h
 obtain ⟨⟨s, b⟩, hq, h⟩ := Option.bind_eq_some_iff.1 h
 obtain rfl := Option.some.inj h
 have HQ := mk_ hq
 clear h hq
 go_enter Tryd.func17, Tryd.ntmps17
 go_wp2_with (first | ((with_reducible refine gate_dst (N := 5) rfl ?_); refine bx_ 5 #[.slice A0 ds.length c0, .slice A1 ts.length c1, .int .i64 id, .slice A3 fs.length c3] 28 ?_; intro g5 hg w1 hbox hb; have BK5 := mk_ hbox; have HB1 := mk_ (below_step HB0.out hb); clear hb hbox hg HB0) | ((with_reducible refine gate_dst (N := 6) rfl ?_); refine bx_ 6 #[.int .i64 9, .string f1, .slice A2 f2.length c2, .int .i64 f3, .int .i64 f4, .slice A5 f5.length c5] 32 ?_; intro g6 hg w2 hbox hb; have BX : Aside0 (B2 w2 g5 g6 _ _) := ⟨⟨⟨blk_below BK5.out hb⟩, ⟨hbox⟩⟩⟩; have HB2 := mk_ (below_step HB1.out hb); clear hb hbox hg HB1 BK5; obtain ⟨_, _, _, _, _, _, -, -, -, -, -, -⟩ := hb6_ BX.out.b6; obtain ⟨_, _, _, _, -, -, -, -⟩ := hb4_ BX.out.b5) | (go_at_call 29; refine (rw_any (f0 := 9) (so := true) IH rfl (HW.out.below HB2.out) (HF.out.below HB2.out) HQ.out).mono ?_; rintro e w3 ⟨rfl, hb⟩; have HB3 := mk_ (below_step HB2.out hb); replace BX := mk_ (BX.out.below hb); obtain ⟨_, _, _, _, _, _, -, -, -, -, -, -⟩ := hb6_ BX.out.b6; clear hb))
 go_ret
 exact ⟨by cases b <;> rfl, HB3.out⟩
theorem rt_op10 {ds : List S73} {ts : List Int} {id : Int} {fs : List S62} {k : Nat} (IH : RTC ds ts id fs k) {A0 : Option Addr} {c0 : Nat} {A1 : Option Addr} {c1 : Nat} {A3 : Option Addr} {c3 : Nat} {f1 : ByteArray} {f2 : List S92} {f3 f4 : Int} {f5 : List S32} {A2 : Option Addr} {c2 : Nat} {A5 : Option Addr} {c5 : Nat} {bnd : List ByteArray} {AB : Option Addr} {cB : Nat} {co m : Int} {r : Bool} {w : World} (hw : WR w A0 c0 ds A1 c1 ts A3 c3 fs) (hf : FR w A2 c2 f2 A5 c5 f5 AB cB bnd) (h : rtG ds ts id fs (k + 1) ⟨10, f1, f2, f3, f4, f5⟩ bnd co m = some r) :
  Calls Tryd.prog 17 #[.agg #[.slice A0 ds.length c0, .slice A1 ts.length c1, .int .i64 id, .slice A3 fs.length c3], .agg #[.int .i64 10, .string f1, .slice A2 f2.length c2, .int .i64 f3, .int .i64 f4, .slice A5 f5.length c5], .slice AB bnd.length cB, .int .i64 co, .int .i64 m] w fun e w' => e = .returned (.bool r) ∧ Below w.heap.size w w' := by
 have HW := mk_ hw
 have HF := mk_ hf
 have HB0 := mk_ (Below.refl w.heap.size w)
 have hu25 := Tryd.underlying25
 have hu28 := Tryd.underlying28
 have hu32 := Tryd.underlying32
 have hu30 := Tryd.underlying30
 have hu60 := Tryd.underlying60
 clear hw hf
 replace h := (show rtG ds ts id fs (k + 1) ⟨10, f1, f2, f3, f4, f5⟩ bnd co m = (pentaglotref26_Interval.f k ds ts id f3 f4).bind (fun ab => if 0 < f5.length ∧ ab.1.length < 4398046511104 then someL true (fun i => rtG ds ts id fs k (rd_T32 f5 0) bnd co (rd ab.1 i)) ab.1.length 0 else none) by rw [rtG.eq_2]; rfl).symm.trans h
 obtain ⟨⟨ms, ok⟩, hi, h⟩ := Option.bind_eq_some_iff.1 h
 split at h
 case isFalse => cases h
 rename_i hc
 have HI := mk_ hi
 have HPOS := mk_ hc.1
 have HLN : Aside0 (ms.length < 4398046511104) := ⟨hc.2⟩
 have HQ0 : Aside0 (someL true (fun i => rtG ds ts id fs k (rd_T32 f5 0) bnd co (rd ms i)) (ms.length - 0) ((0 : Nat) : Int) = some r) := ⟨h⟩
 clear h hi hc
 go_enter Tryd.func17, Tryd.ntmps17
 go_wp2_with (first | ((with_reducible refine gate_dst (N := 5) rfl ?_); refine bx_ 5 #[.slice A0 ds.length c0, .slice A1 ts.length c1, .int .i64 id, .slice A3 fs.length c3] 28 ?_; intro g5 hg w1 hbox hb; have BK5 := mk_ hbox; have HB1 := mk_ (below_step HB0.out hb); clear hb hbox hg HB0) | ((with_reducible refine gate_dst (N := 6) rfl ?_); refine bx_ 6 #[.int .i64 10, .string f1, .slice A2 f2.length c2, .int .i64 f3, .int .i64 f4, .slice A5 f5.length c5] 32 ?_; intro g6 hg w2 hbox hb; have BX : Aside0 (B2 w2 g5 g6 _ _) := ⟨⟨⟨blk_below BK5.out hb⟩, ⟨hbox⟩⟩⟩; have HB2 := mk_ (below_step HB1.out hb); clear hb hbox hg HB1 BK5; obtain ⟨_, _, _, _, _, _, -, -, -, -, -, -⟩ := hb6_ BX.out.b6; obtain ⟨_, _, _, _, -, -, -, -⟩ := hb4_ BX.out.b5) | (go_at_call 23; refine (pentaglotref26_Interval.calls k _ _ ds _ _ ts id f3 f4 ms ok _ (HW.out.below HB2.out).r0 HW.out.l0 (HW.out.below HB2.out).r1 HW.out.l1 HI.out).mono ?_; rintro e w3 ⟨v, rfl, hv, hb⟩; obtain ⟨AN, cN, rfl, lN, fN⟩ := Kd.R_V (base' := 0) hv; have HNS := mk_ (Kd.F_now fN); replace BX := mk_ (BX.out.below hb); have HBw := mk_ (below_step HB2.out hb); clear hb hv lN fN HB2))
 go_loopw [17] (fun v wr => ∃ i : Nat, v = .int .i64 (i : Int) ∧ Aside0 (i ≤ ms.length) ∧ Aside0 (someL true (fun i => rtG ds ts id fs k (rd_T32 f5 0) bnd co (rd ms i)) (ms.length - i) (i : Int) = some r) ∧ Aside0 (B2 wr g5 g6 #[.slice A0 ds.length c0, .slice A1 ts.length c1, .int .i64 id, .slice A3 fs.length c3] #[.int .i64 10, .string f1, .slice A2 f2.length c2, .int .i64 f3, .int .i64 f4, .slice A5 f5.length c5]) ∧ Aside0 (Kd.C (Kd.int .i64) wr AN ms.length ms) ∧ Aside0 (Below w.heap.size w wr)) (fun v _ => ms.length - (intOf v).toNat)
 case atStart => exact ⟨0, rfl, ⟨Nat.zero_le _⟩, HQ0, BX, HNS, HBw⟩
 case round =>
  clear HQ0 BX HNS HBw
  obtain ⟨i, rfl, HIL, HQ, BX, HNS, HB2⟩ := hrel
  have hln := HLN.out
  by_cases hlt : i < ms.length
  ·have h0 : (0 : Int) ≤ (i : Int) := by omega
   have h1 : (i : Int) < (ms.length : Int) := by omega
   have hq := HQ.out
   rw [show ms.length - i = (ms.length - (i + 1)) + 1 by omega, someL] at hq
   obtain ⟨b, hq, hn⟩ := Option.bind_eq_some_iff.1 hq
   have HN := mk_ hn
   clear hn HQ
   obtain ⟨an, rfl, hs⟩ := Kd.at_int HNS.out (i : Int) h0 h1
   rw [Int.toNat_natCast] at hs
   have hpos : 0 < f5.length := HPOS.out
   obtain ⟨ad, X2, e2, X5, e5, ea, hk0, hk1, hk2, hk3, hk4, hk5, hl2, hg2, hl5, hg5⟩ := at_T32 (HF.out.below HB2.out).r5 0 (Int.le_refl _) (by omega)
   subst ea
   obtain ⟨x, hx⟩ : ∃ x, x = rd_T32 f5 0 := ⟨_, rfl⟩
   rw [← hx] at hk0 hk1 hk2 hk3 hk4 hk5 hl2 hg2 hl5 hg5 hq
   clear hx
   have ea0 : ad.add ((0 : Int).toNat * 6) = ad := by cases ad; rfl
   rw [ea0] at hk0 hk1 hk2 hk3 hk4 hk5
   clear ea0
   obtain ⟨z, hz⟩ : ∃ z, z = rd ms (i : Int) := ⟨_, rfl⟩
   rw [← hz] at hs hq
   clear hz
   have p0 : (0 ≤ (i : Int)) = True := eq_true h0
   have p1 : ((i : Int) < (ms.length : Int)) = True := eq_true h1
   have e1_ : wrap64 ((i : Int) + 1) = ((i + 1 : Nat) : Int) := by unfold wrap64; omega
   have HE := mk_ e1_
   clear h0 h1 e1_ hln
   go_wp2
   refine start_ (n := 13) (S := fun w' => w'.cell? ⟨g5, 0, none⟩ = some (.slice A0 ds.length c0) ∧ w'.cell? ⟨g5, 1, none⟩ = some (.slice A1 ts.length c1) ∧ w'.cell? ⟨g5, 2, none⟩ = some (.int .i64 id) ∧ w'.cell? ⟨g5, 3, none⟩ = some (.slice A3 fs.length c3) ∧ w'.cell? ⟨g6, 5, none⟩ = some (.slice (some ad) f5.length c5) ∧ w'.cell? ad = some (.int .i64 x.f0) ∧ w'.cell? ⟨ad.block, ad.off + 1, none⟩ = some (.string x.f1) ∧ w'.cell? ⟨ad.block, ad.off + 2, none⟩ = some (.slice X2 x.f2.length e2) ∧ w'.cell? ⟨ad.block, ad.off + 3, none⟩ = some (.int .i64 x.f3) ∧ w'.cell? ⟨ad.block, ad.off + 4, none⟩ = some (.int .i64 x.f4) ∧ w'.cell? ⟨ad.block, ad.off + 5, none⟩ = some (.slice X5 x.f5.length e5) ∧ w'.cell? (an.add i) = some (.int .i64 z)) (ds := [11]) (Array.replicate 13 false) (by kernel_rfl) rfl rfl ⟨(blk_cell (blk_drew BX.out.b5.out) 0).trans rfl, (blk_cell (blk_drew BX.out.b5.out) 1).trans rfl, (blk_cell (blk_drew BX.out.b5.out) 2).trans rfl, (blk_cell (blk_drew BX.out.b5.out) 3).trans rfl, (blk_cell (blk_drew BX.out.b6.out) 5).trans rfl, hk0, hk1, hk2, hk3, hk4, hk5, hs⟩ (fun hHeld => ?_)
   refine tk_ 0 (some 140) hHeld ?_
   refine pu_ 1 (some 141) ?_
   refine tk_ 2 (some 142) hHeld ?_
   refine pu_ 3 (some 143) ?_
   refine tk_ 4 (some 144) hHeld ?_
   refine pu_ 5 (some 145) ?_
   refine pu_ 6 (some 146) ?_
   refine pu_ 7 (some 147) ?_
   refine pu_ 8 (some 148) ?_
   refine pu_ 9 (some 149) ?_
   refine tk_ 10 (some 150) hHeld ?_
   refine la_ 11 (some 151) (fun K hK => ?_)
   refine go_ Tryd.func17 #[.agg #[.slice A0 ds.length c0, .slice A1 ts.length c1, .int .i64 id, .slice A3 fs.length c3], .agg #[.int .i64 x.f0, .string x.f1, .slice X2 x.f2.length e2, .int .i64 x.f3, .int .i64 x.f4, .slice X5 x.f5.length e5], .slice AB bnd.length cB, .int .i64 co, .int .i64 z] ?_
   refine (IH A0 c0 A1 c1 A3 c3 x X2 e2 X5 e5 bnd _ _ _ _ _ _ (HW.out.below (below_drew1 HB2.out)) (FR.mk (Kd.C_below hg2 (below_drew (Below.refl _ _))) hl2 (Kd.C_below hg5 (below_drew (Below.refl _ _))) hl5 (HF.out.below (below_drew1 HB2.out)).rB HF.out.lB) hq).mono ?_
   rintro e w3 ⟨rfl, hb⟩
   refine ⟨_, rfl, ?_⟩
   have hbd := (below_drew (Below.refl _ _)).trans hb
   have HB3 := mk_ (below_step HB2.out hbd)
   have BX' := mk_ (BX.out.below hbd)
   have HNS' := mk_ (Kd.C_below HNS.out hbd)
   clear hb
   refine hK.out _ _ ?_
   clear hK K
   refine no_ (N := some 151) ?_
   refine pu_ 12 (some 152) ?_
   refine done_ (by kernel_rfl) ?_
   cases b
   ·obtain rfl := Option.some.inj HN.out
    go_wp2
    go_ret
    exact ⟨rfl, HB3.out⟩
   ·go_wp2
    go_roundw
    case rel => exact ⟨i + 1, by rw [HE.out], ⟨by omega⟩, ⟨HN.out⟩, BX', HNS', HB3⟩
    case measure => rw [HE.out]; simp only [intOf]; omega
  ·obtain rfl : i = ms.length := by have := HIL.out; omega
   have hq := HQ.out
   rw [Nat.sub_self, someL] at hq
   obtain rfl := Option.some.inj hq
   clear hlt hq hln
   go_wp2
   go_ret
   exact ⟨rfl, HB2.out⟩
theorem rt_op11 {ds : List S73} {ts : List Int} {id : Int} {fs : List S62} {k : Nat} (IH : RTC ds ts id fs k) {A0 : Option Addr} {c0 : Nat} {A1 : Option Addr} {c1 : Nat} {A3 : Option Addr} {c3 : Nat} {f1 : ByteArray} {f2 : List S92} {f3 f4 : Int} {f5 : List S32} {A2 : Option Addr} {c2 : Nat} {A5 : Option Addr} {c5 : Nat} {bnd : List ByteArray} {AB : Option Addr} {cB : Nat} {co m : Int} {r : Bool} {w : World} (hw : WR w A0 c0 ds A1 c1 ts A3 c3 fs) (hf : FR w A2 c2 f2 A5 c5 f5 AB cB bnd) (h : rtG ds ts id fs (k + 1) ⟨11, f1, f2, f3, f4, f5⟩ bnd co m = some r) :
  Calls Tryd.prog 17 #[.agg #[.slice A0 ds.length c0, .slice A1 ts.length c1, .int .i64 id, .slice A3 fs.length c3], .agg #[.int .i64 11, .string f1, .slice A2 f2.length c2, .int .i64 f3, .int .i64 f4, .slice A5 f5.length c5], .slice AB bnd.length cB, .int .i64 co, .int .i64 m] w fun e w' => e = .returned (.bool r) ∧ Below w.heap.size w w' := by
 have HW := mk_ hw
 have HF := mk_ hf
 have HB0 := mk_ (Below.refl w.heap.size w)
 have hu25 := Tryd.underlying25
 have hu28 := Tryd.underlying28
 have hu32 := Tryd.underlying32
 have hu30 := Tryd.underlying30
 have hu60 := Tryd.underlying60
 clear hw hf
 replace h := (show rtG ds ts id fs (k + 1) ⟨11, f1, f2, f3, f4, f5⟩ bnd co m = (if 0 < f5.length ∧ 0 ≤ id ∧ id < 4611686018427387904 then someL true (fun i => rtG ds ts id fs k (rd_T32 f5 0) bnd i m) id.toNat 1 else none) by rw [rtG.eq_2]; rfl).symm.trans h
 split at h
 case isFalse => cases h
 rename_i hc
 have HPOS := mk_ hc.1
 have HID := mk_ hc.2
 have HQ0 : Aside0 (someL true (fun i => rtG ds ts id fs k (rd_T32 f5 0) bnd i m) (id + 1 - 1).toNat 1 = some r) := ⟨by rw [show id + 1 - 1 = id by omega]; exact h⟩
 clear h hc
 go_enter Tryd.func17, Tryd.ntmps17
 go_wp2_with (first | ((with_reducible refine gate_dst (N := 5) rfl ?_); refine bx_ 5 #[.slice A0 ds.length c0, .slice A1 ts.length c1, .int .i64 id, .slice A3 fs.length c3] 28 ?_; intro g5 hg w1 hbox hb; have BK5 := mk_ hbox; have HB1 := mk_ (below_step HB0.out hb); clear hb hbox hg HB0) | ((with_reducible refine gate_dst (N := 6) rfl ?_); refine bx_ 6 #[.int .i64 11, .string f1, .slice A2 f2.length c2, .int .i64 f3, .int .i64 f4, .slice A5 f5.length c5] 32 ?_; intro g6 hg w2 hbox hb; have BX : Aside0 (B2 w2 g5 g6 _ _) := ⟨⟨⟨blk_below BK5.out hb⟩, ⟨hbox⟩⟩⟩; have HB2 := mk_ (below_step HB1.out hb); clear hb hbox hg HB1 BK5; obtain ⟨_, _, _, _, _, _, -, -, -, -, -, -⟩ := hb6_ BX.out.b6))
 go_loopw [18] (fun v wr => ∃ c : Int, v = .int .i64 c ∧ Aside0 (1 ≤ c) ∧ Aside0 (c ≤ id + 1) ∧ Aside0 (someL true (fun i => rtG ds ts id fs k (rd_T32 f5 0) bnd i m) (id + 1 - c).toNat c = some r) ∧ Aside0 (B2 wr g5 g6 #[.slice A0 ds.length c0, .slice A1 ts.length c1, .int .i64 id, .slice A3 fs.length c3] #[.int .i64 11, .string f1, .slice A2 f2.length c2, .int .i64 f3, .int .i64 f4, .slice A5 f5.length c5]) ∧ Aside0 (Below w.heap.size w wr)) (fun v _ => (id + 1 - intOf v).toNat)
 case atStart => exact ⟨1, rfl, ⟨by omega⟩, ⟨by have := HID.out; omega⟩, HQ0, BX, HB2⟩
 case round =>
  clear HQ0 BX HB2
  obtain ⟨c, rfl, H1, HC, HQ, BX, HB2⟩ := hrel
  have hid := HID.out
  have hc1 := H1.out
  obtain ⟨_, _, _, _, -, -, -, -⟩ := hb4_ BX.out.b5
  by_cases hlt : c ≤ id
  ·have hq := HQ.out
   rw [show (id + 1 - c).toNat = (id - c).toNat + 1 by omega, someL] at hq
   obtain ⟨b, hq, hn⟩ := Option.bind_eq_some_iff.1 hq
   have HN := mk_ hn
   clear hn HQ
   have hpos : 0 < f5.length := HPOS.out
   obtain ⟨ad, X2, e2, X5, e5, ea, hk0, hk1, hk2, hk3, hk4, hk5, hl2, hg2, hl5, hg5⟩ := at_T32 (HF.out.below HB2.out).r5 0 (Int.le_refl _) (by omega)
   subst ea
   obtain ⟨x, hx⟩ : ∃ x, x = rd_T32 f5 0 := ⟨_, rfl⟩
   rw [← hx] at hk0 hk1 hk2 hk3 hk4 hk5 hl2 hg2 hl5 hg5 hq
   clear hx
   have ea0 : ad.add ((0 : Int).toNat * 6) = ad := by cases ad; rfl
   rw [ea0] at hk0 hk1 hk2 hk3 hk4 hk5
   clear ea0
   go_wp2
   refine start_ (n := 13) (S := fun w' => w'.cell? ⟨g5, 0, none⟩ = some (.slice A0 ds.length c0) ∧ w'.cell? ⟨g5, 1, none⟩ = some (.slice A1 ts.length c1) ∧ w'.cell? ⟨g5, 2, none⟩ = some (.int .i64 id) ∧ w'.cell? ⟨g5, 3, none⟩ = some (.slice A3 fs.length c3) ∧ w'.cell? ⟨g6, 5, none⟩ = some (.slice (some ad) f5.length c5) ∧ w'.cell? ad = some (.int .i64 x.f0) ∧ w'.cell? ⟨ad.block, ad.off + 1, none⟩ = some (.string x.f1) ∧ w'.cell? ⟨ad.block, ad.off + 2, none⟩ = some (.slice X2 x.f2.length e2) ∧ w'.cell? ⟨ad.block, ad.off + 3, none⟩ = some (.int .i64 x.f3) ∧ w'.cell? ⟨ad.block, ad.off + 4, none⟩ = some (.int .i64 x.f4) ∧ w'.cell? ⟨ad.block, ad.off + 5, none⟩ = some (.slice X5 x.f5.length e5) ∧ w'.cell? ⟨g6, 0, none⟩ = some (.int .i64 11)) (ds := []) (Array.replicate 13 false) (by kernel_rfl) rfl rfl ⟨(blk_cell (blk_drew BX.out.b5.out) 0).trans rfl, (blk_cell (blk_drew BX.out.b5.out) 1).trans rfl, (blk_cell (blk_drew BX.out.b5.out) 2).trans rfl, (blk_cell (blk_drew BX.out.b5.out) 3).trans rfl, (blk_cell (blk_drew BX.out.b6.out) 5).trans rfl, hk0, hk1, hk2, hk3, hk4, hk5, (blk_cell (blk_drew BX.out.b6.out) 0).trans rfl⟩ (fun hHeld => ?_)
   refine tk_ 0 (some 163) hHeld ?_
   refine pu_ 1 (some 164) ?_
   refine tk_ 2 (some 165) hHeld ?_
   refine pu_ 3 (some 166) ?_
   refine tk_ 4 (some 167) hHeld ?_
   refine pu_ 5 (some 168) ?_
   refine pu_ 6 (some 169) ?_
   refine pu_ 7 (some 170) ?_
   refine pu_ 9 (some 172) ?_
   refine tk_ 10 (some 173) hHeld ?_
   refine pu_ 11 (some 174) ?_
   refine on_ 8 (some 171) (fun K hK => ?_)
   refine go_ Tryd.func17 #[.agg #[.slice A0 ds.length c0, .slice A1 ts.length c1, .int .i64 id, .slice A3 fs.length c3], .agg #[.int .i64 x.f0, .string x.f1, .slice X2 x.f2.length e2, .int .i64 x.f3, .int .i64 x.f4, .slice X5 x.f5.length e5], .slice AB bnd.length cB, .int .i64 c, .int .i64 m] ?_
   refine (IH A0 c0 A1 c1 A3 c3 x X2 e2 X5 e5 bnd _ _ _ _ _ _ (HW.out.below (below_drew1 HB2.out)) (FR.mk (Kd.C_below hg2 (below_drew (Below.refl _ _))) hl2 (Kd.C_below hg5 (below_drew (Below.refl _ _))) hl5 (HF.out.below (below_drew1 HB2.out)).rB HF.out.lB) hq).mono ?_
   rintro e w3 ⟨rfl, hb⟩
   refine ⟨_, rfl, ?_⟩
   have hbd := (below_drew (Below.refl _ _)).trans hb
   have HB3 := mk_ (below_step HB2.out hbd)
   have BX' := mk_ (BX.out.below hbd)
   clear hb
   refine hK.out _ _ ⟨(blk_cell BX'.out.b5.out 0).trans rfl, (blk_cell BX'.out.b5.out 1).trans rfl, (blk_cell BX'.out.b5.out 2).trans rfl, (blk_cell BX'.out.b5.out 3).trans rfl, (blk_cell BX'.out.b6.out 5).trans rfl, (hbd.cell (World.block_lt_of_cell? _ _ hk0)).trans hk0, (hbd.cell (World.block_lt_of_cell? _ _ hk1)).trans hk1, (hbd.cell (World.block_lt_of_cell? _ _ hk2)).trans hk2, (hbd.cell (World.block_lt_of_cell? _ _ hk3)).trans hk3, (hbd.cell (World.block_lt_of_cell? _ _ hk4)).trans hk4, (hbd.cell (World.block_lt_of_cell? _ _ hk5)).trans hk5, (blk_cell BX'.out.b6.out 0).trans rfl⟩ (fun hHeld => ?_)
   clear hK K
   refine no_ (N := some 171) ?_
   refine pu_ 12 (some 175) ?_
   refine done_ (by kernel_rfl) ?_
   obtain ⟨_, _, _, _, _, _, -, -, -, -, -, -⟩ := hb6_ BX'.out.b6
   cases b
   ·obtain rfl := Option.some.inj HN.out
    go_wp2
    go_ret
    exact ⟨rfl, HB3.out⟩
   ·go_wp2
    go_roundw
    case rel => exact ⟨c + 1, rfl, ⟨by omega⟩, ⟨by omega⟩, ⟨by rw [show (id + 1 - (c + 1)).toNat = (id - c).toNat by omega]; exact HN.out⟩, BX', HB3⟩
    case measure => simp only [intOf]; omega
  ·obtain rfl : c = id + 1 := by have := HC.out; omega
   have hq := HQ.out
   rw [Int.sub_self, Int.toNat_zero, someL] at hq
   obtain rfl := Option.some.inj hq
   have hlt' : ¬ id + 1 ≤ id := by omega
   obtain ⟨_, _, _, _, _, _, -, -, -, -, -, -⟩ := hb6_ BX.out.b6
   clear hlt hq hid hc1
   go_wp2
   go_ret
   exact ⟨rfl, HB2.out⟩
theorem rt_op12 {ds : List S73} {ts : List Int} {id : Int} {fs : List S62} {k : Nat} (IH : RTC ds ts id fs k) {A0 : Option Addr} {c0 : Nat} {A1 : Option Addr} {c1 : Nat} {A3 : Option Addr} {c3 : Nat} {f1 : ByteArray} {f2 : List S92} {f3 f4 : Int} {f5 : List S32} {A2 : Option Addr} {c2 : Nat} {A5 : Option Addr} {c5 : Nat} {bnd : List ByteArray} {AB : Option Addr} {cB : Nat} {co m : Int} {r : Bool} {w : World} (hw : WR w A0 c0 ds A1 c1 ts A3 c3 fs) (hf : FR w A2 c2 f2 A5 c5 f5 AB cB bnd) (h : rtG ds ts id fs (k + 1) ⟨12, f1, f2, f3, f4, f5⟩ bnd co m = some r) :
  Calls Tryd.prog 17 #[.agg #[.slice A0 ds.length c0, .slice A1 ts.length c1, .int .i64 id, .slice A3 fs.length c3], .agg #[.int .i64 12, .string f1, .slice A2 f2.length c2, .int .i64 f3, .int .i64 f4, .slice A5 f5.length c5], .slice AB bnd.length cB, .int .i64 co, .int .i64 m] w fun e w' => e = .returned (.bool r) ∧ Below w.heap.size w w' := by
 have HW := mk_ hw
 have HF := mk_ hf
 have HB0 := mk_ (Below.refl w.heap.size w)
 have hu25 := Tryd.underlying25
 have hu28 := Tryd.underlying28
 have hu32 := Tryd.underlying32
 have hu30 := Tryd.underlying30
 have hu60 := Tryd.underlying60
 clear hw hf
 replace h := (show rtG ds ts id fs (k + 1) ⟨12, f1, f2, f3, f4, f5⟩ bnd co m = (if 0 < f5.length ∧ 0 ≤ id ∧ id < 4611686018427387904 then someL false (fun i => rtG ds ts id fs k (rd_T32 f5 0) bnd i m) id.toNat 1 else none) by rw [rtG.eq_2]; rfl).symm.trans h
 split at h
 case isFalse => cases h
 rename_i hc
 have HPOS := mk_ hc.1
 have HID := mk_ hc.2
 have HQ0 : Aside0 (someL false (fun i => rtG ds ts id fs k (rd_T32 f5 0) bnd i m) (id + 1 - 1).toNat 1 = some r) := ⟨by rw [show id + 1 - 1 = id by omega]; exact h⟩
 clear h hc
 go_enter Tryd.func17, Tryd.ntmps17
 go_wp2_with (first | ((with_reducible refine gate_dst (N := 5) rfl ?_); refine bx_ 5 #[.slice A0 ds.length c0, .slice A1 ts.length c1, .int .i64 id, .slice A3 fs.length c3] 28 ?_; intro g5 hg w1 hbox hb; have BK5 := mk_ hbox; have HB1 := mk_ (below_step HB0.out hb); clear hb hbox hg HB0) | ((with_reducible refine gate_dst (N := 6) rfl ?_); refine bx_ 6 #[.int .i64 12, .string f1, .slice A2 f2.length c2, .int .i64 f3, .int .i64 f4, .slice A5 f5.length c5] 32 ?_; intro g6 hg w2 hbox hb; have BX : Aside0 (B2 w2 g5 g6 _ _) := ⟨⟨⟨blk_below BK5.out hb⟩, ⟨hbox⟩⟩⟩; have HB2 := mk_ (below_step HB1.out hb); clear hb hbox hg HB1 BK5; obtain ⟨_, _, _, _, _, _, -, -, -, -, -, -⟩ := hb6_ BX.out.b6))
 go_loopw [18] (fun v wr => ∃ c : Int, v = .int .i64 c ∧ Aside0 (1 ≤ c) ∧ Aside0 (c ≤ id + 1) ∧ Aside0 (someL false (fun i => rtG ds ts id fs k (rd_T32 f5 0) bnd i m) (id + 1 - c).toNat c = some r) ∧ Aside0 (B2 wr g5 g6 #[.slice A0 ds.length c0, .slice A1 ts.length c1, .int .i64 id, .slice A3 fs.length c3] #[.int .i64 12, .string f1, .slice A2 f2.length c2, .int .i64 f3, .int .i64 f4, .slice A5 f5.length c5]) ∧ Aside0 (Below w.heap.size w wr)) (fun v _ => (id + 1 - intOf v).toNat)
 case atStart => exact ⟨1, rfl, ⟨by omega⟩, ⟨by have := HID.out; omega⟩, HQ0, BX, HB2⟩
 case round =>
  clear HQ0 BX HB2
  obtain ⟨c, rfl, H1, HC, HQ, BX, HB2⟩ := hrel
  have hid := HID.out
  have hc1 := H1.out
  obtain ⟨_, _, _, _, -, -, -, -⟩ := hb4_ BX.out.b5
  by_cases hlt : c ≤ id
  ·have hq := HQ.out
   rw [show (id + 1 - c).toNat = (id - c).toNat + 1 by omega, someL] at hq
   obtain ⟨b, hq, hn⟩ := Option.bind_eq_some_iff.1 hq
   have HN := mk_ hn
   clear hn HQ
   have hpos : 0 < f5.length := HPOS.out
   obtain ⟨ad, X2, e2, X5, e5, ea, hk0, hk1, hk2, hk3, hk4, hk5, hl2, hg2, hl5, hg5⟩ := at_T32 (HF.out.below HB2.out).r5 0 (Int.le_refl _) (by omega)
   subst ea
   obtain ⟨x, hx⟩ : ∃ x, x = rd_T32 f5 0 := ⟨_, rfl⟩
   rw [← hx] at hk0 hk1 hk2 hk3 hk4 hk5 hl2 hg2 hl5 hg5 hq
   clear hx
   have ea0 : ad.add ((0 : Int).toNat * 6) = ad := by cases ad; rfl
   rw [ea0] at hk0 hk1 hk2 hk3 hk4 hk5
   clear ea0
   go_wp2
   refine start_ (n := 13) (S := fun w' => w'.cell? ⟨g5, 0, none⟩ = some (.slice A0 ds.length c0) ∧ w'.cell? ⟨g5, 1, none⟩ = some (.slice A1 ts.length c1) ∧ w'.cell? ⟨g5, 2, none⟩ = some (.int .i64 id) ∧ w'.cell? ⟨g5, 3, none⟩ = some (.slice A3 fs.length c3) ∧ w'.cell? ⟨g6, 5, none⟩ = some (.slice (some ad) f5.length c5) ∧ w'.cell? ad = some (.int .i64 x.f0) ∧ w'.cell? ⟨ad.block, ad.off + 1, none⟩ = some (.string x.f1) ∧ w'.cell? ⟨ad.block, ad.off + 2, none⟩ = some (.slice X2 x.f2.length e2) ∧ w'.cell? ⟨ad.block, ad.off + 3, none⟩ = some (.int .i64 x.f3) ∧ w'.cell? ⟨ad.block, ad.off + 4, none⟩ = some (.int .i64 x.f4) ∧ w'.cell? ⟨ad.block, ad.off + 5, none⟩ = some (.slice X5 x.f5.length e5) ∧ w'.cell? ⟨g6, 0, none⟩ = some (.int .i64 12)) (ds := []) (Array.replicate 13 false) (by kernel_rfl) rfl rfl ⟨(blk_cell (blk_drew BX.out.b5.out) 0).trans rfl, (blk_cell (blk_drew BX.out.b5.out) 1).trans rfl, (blk_cell (blk_drew BX.out.b5.out) 2).trans rfl, (blk_cell (blk_drew BX.out.b5.out) 3).trans rfl, (blk_cell (blk_drew BX.out.b6.out) 5).trans rfl, hk0, hk1, hk2, hk3, hk4, hk5, (blk_cell (blk_drew BX.out.b6.out) 0).trans rfl⟩ (fun hHeld => ?_)
   refine tk_ 0 (some 163) hHeld ?_
   refine pu_ 1 (some 164) ?_
   refine tk_ 2 (some 165) hHeld ?_
   refine pu_ 3 (some 166) ?_
   refine tk_ 4 (some 167) hHeld ?_
   refine pu_ 5 (some 168) ?_
   refine pu_ 6 (some 169) ?_
   refine pu_ 7 (some 170) ?_
   refine pu_ 9 (some 172) ?_
   refine tk_ 10 (some 173) hHeld ?_
   refine pu_ 11 (some 174) ?_
   refine on_ 8 (some 171) (fun K hK => ?_)
   refine go_ Tryd.func17 #[.agg #[.slice A0 ds.length c0, .slice A1 ts.length c1, .int .i64 id, .slice A3 fs.length c3], .agg #[.int .i64 x.f0, .string x.f1, .slice X2 x.f2.length e2, .int .i64 x.f3, .int .i64 x.f4, .slice X5 x.f5.length e5], .slice AB bnd.length cB, .int .i64 c, .int .i64 m] ?_
   refine (IH A0 c0 A1 c1 A3 c3 x X2 e2 X5 e5 bnd _ _ _ _ _ _ (HW.out.below (below_drew1 HB2.out)) (FR.mk (Kd.C_below hg2 (below_drew (Below.refl _ _))) hl2 (Kd.C_below hg5 (below_drew (Below.refl _ _))) hl5 (HF.out.below (below_drew1 HB2.out)).rB HF.out.lB) hq).mono ?_
   rintro e w3 ⟨rfl, hb⟩
   refine ⟨_, rfl, ?_⟩
   have hbd := (below_drew (Below.refl _ _)).trans hb
   have HB3 := mk_ (below_step HB2.out hbd)
   have BX' := mk_ (BX.out.below hbd)
   clear hb
   refine hK.out _ _ ⟨(blk_cell BX'.out.b5.out 0).trans rfl, (blk_cell BX'.out.b5.out 1).trans rfl, (blk_cell BX'.out.b5.out 2).trans rfl, (blk_cell BX'.out.b5.out 3).trans rfl, (blk_cell BX'.out.b6.out 5).trans rfl, (hbd.cell (World.block_lt_of_cell? _ _ hk0)).trans hk0, (hbd.cell (World.block_lt_of_cell? _ _ hk1)).trans hk1, (hbd.cell (World.block_lt_of_cell? _ _ hk2)).trans hk2, (hbd.cell (World.block_lt_of_cell? _ _ hk3)).trans hk3, (hbd.cell (World.block_lt_of_cell? _ _ hk4)).trans hk4, (hbd.cell (World.block_lt_of_cell? _ _ hk5)).trans hk5, (blk_cell BX'.out.b6.out 0).trans rfl⟩ (fun hHeld => ?_)
   clear hK K
   refine no_ (N := some 171) ?_
   refine pu_ 12 (some 175) ?_
   refine done_ (by kernel_rfl) ?_
   obtain ⟨_, _, _, _, _, _, -, -, -, -, -, -⟩ := hb6_ BX'.out.b6
   cases b
   ·go_wp2
    go_roundw
    case rel => exact ⟨c + 1, rfl, ⟨by omega⟩, ⟨by omega⟩, ⟨by rw [show (id + 1 - (c + 1)).toNat = (id - c).toNat by omega]; exact HN.out⟩, BX', HB3⟩
    case measure => simp only [intOf]; omega
   ·obtain rfl := Option.some.inj HN.out
    go_wp2
    go_ret
    exact ⟨rfl, HB3.out⟩
  ·obtain rfl : c = id + 1 := by have := HC.out; omega
   have hq := HQ.out
   rw [Int.sub_self, Int.toNat_zero, someL] at hq
   obtain rfl := Option.some.inj hq
   have hlt' : ¬ id + 1 ≤ id := by omega
   obtain ⟨_, _, _, _, _, _, -, -, -, -, -, -⟩ := hb6_ BX.out.b6
   clear hlt hq hid hc1
   go_wp2
   go_ret
   exact ⟨rfl, HB2.out⟩
theorem rt_opx {ds : List S73} {ts : List Int} {id : Int} {fs : List S62} {k : Nat} (IH : RTC ds ts id fs k) {A0 : Option Addr} {c0 : Nat} {A1 : Option Addr} {c1 : Nat} {A3 : Option Addr} {c3 : Nat} {f0 : Int} (hn : f0 ≠ 1 ∧ f0 ≠ 3 ∧ f0 ≠ 4 ∧ f0 ≠ 5 ∧ f0 ≠ 6 ∧ f0 ≠ 7 ∧ f0 ≠ 8 ∧ f0 ≠ 9 ∧ f0 ≠ 10 ∧ f0 ≠ 11 ∧ f0 ≠ 12) {f1 : ByteArray} {f2 : List S92} {f3 f4 : Int} {f5 : List S32} {A2 : Option Addr} {c2 : Nat} {A5 : Option Addr} {c5 : Nat} {bnd : List ByteArray} {AB : Option Addr} {cB : Nat} {co m : Int} {r : Bool} {w : World} (hw : WR w A0 c0 ds A1 c1 ts A3 c3 fs) (hf : FR w A2 c2 f2 A5 c5 f5 AB cB bnd) (h : rtG ds ts id fs (k + 1) ⟨f0, f1, f2, f3, f4, f5⟩ bnd co m = some r) :
  Calls Tryd.prog 17 #[.agg #[.slice A0 ds.length c0, .slice A1 ts.length c1, .int .i64 id, .slice A3 fs.length c3], .agg #[.int .i64 f0, .string f1, .slice A2 f2.length c2, .int .i64 f3, .int .i64 f4, .slice A5 f5.length c5], .slice AB bnd.length cB, .int .i64 co, .int .i64 m] w fun e w' => e = .returned (.bool r) ∧ Below w.heap.size w w' := by
 have HW := mk_ hw
 have HF := mk_ hf
 have HB0 := mk_ (Below.refl w.heap.size w)
 have hu25 := Tryd.underlying25
 have hu28 := Tryd.underlying28
 have hu32 := Tryd.underlying32
 have hu30 := Tryd.underlying30
 have hu60 := Tryd.underlying60
 clear hw hf
 obtain ⟨n1, n3, n4, n5, n6, n7, n8, n9, n10, n11, n12⟩ := hn
 obtain rfl : false = r := Option.some.inj ((show rtG ds ts id fs (k + 1) ⟨f0, f1, f2, f3, f4, f5⟩ bnd co m = some false by rw [rtG.eq_2]; dsimp only; rw [if_neg n1, if_neg n3, if_neg n4, if_neg n5, if_neg n6, if_neg n7, if_neg n8, if_neg n9, if_neg n10, if_neg n11, if_neg n12]).symm.trans h)
 have d1 : (f0 == 1) = false := beq_eq_false_iff_ne.mpr n1
 have d3 : (f0 == 3) = false := beq_eq_false_iff_ne.mpr n3
 have d4 : (f0 == 4) = false := beq_eq_false_iff_ne.mpr n4
 have d5 : (f0 == 5) = false := beq_eq_false_iff_ne.mpr n5
 have d6 : (f0 == 6) = false := beq_eq_false_iff_ne.mpr n6
 have d7 : (f0 == 7) = false := beq_eq_false_iff_ne.mpr n7
 have d8 : (f0 == 8) = false := beq_eq_false_iff_ne.mpr n8
 have d9 : (f0 == 9) = false := beq_eq_false_iff_ne.mpr n9
 have d10 : (f0 == 10) = false := beq_eq_false_iff_ne.mpr n10
 have d11 : (f0 == 11) = false := beq_eq_false_iff_ne.mpr n11
 have d12 : (f0 == 12) = false := beq_eq_false_iff_ne.mpr n12
 clear h n1 n3 n4 n5 n6 n7 n8 n9 n10 n11 n12
 go_enter Tryd.func17, Tryd.ntmps17
 go_wp2_with (first | ((with_reducible refine gate_dst (N := 5) rfl ?_); refine bx_ 5 #[.slice A0 ds.length c0, .slice A1 ts.length c1, .int .i64 id, .slice A3 fs.length c3] 28 ?_; intro g5 hg w1 hbox hb; have BK5 := mk_ hbox; have HB1 := mk_ (below_step HB0.out hb); clear hb hbox hg HB0) | ((with_reducible refine gate_dst (N := 6) rfl ?_); refine bx_ 6 #[.int .i64 f0, .string f1, .slice A2 f2.length c2, .int .i64 f3, .int .i64 f4, .slice A5 f5.length c5] 32 ?_; intro g6 hg w2 hbox hb; have BX : Aside0 (B2 w2 g5 g6 _ _) := ⟨⟨⟨blk_below BK5.out hb⟩, ⟨hbox⟩⟩⟩; have HB2 := mk_ (below_step HB1.out hb); clear hb hbox hg HB1 BK5; obtain ⟨_, _, _, _, _, _, -, -, -, -, -, -⟩ := hb6_ BX.out.b6))
 go_ret
 exact ⟨rfl, HB2.out⟩
theorem rt_any (ds : List S73) (ts : List Int) (id : Int) (fs : List S62) : ∀ k, RTC ds ts id fs k
 | 0 => by
  intro A0 c0 A1 c1 A3 c3 t A2 c2 A5 c5 bnd AB cB co m r w _ _ h
  rw [rtG] at h
  cases h
 | k + 1 => by
  intro A0 c0 A1 c1 A3 c3 t A2 c2 A5 c5 bnd AB cB co m r w hw hf h
  have IH := rt_any ds ts id fs k
  obtain ⟨f0, f1, f2, f3, f4, f5⟩ := t
  dsimp only at hf ⊢
  by_cases n1 : f0 = 1
  ·subst n1; exact rt_op1 IH hw hf h
  by_cases n3 : f0 = 3
  ·subst n3; exact rt_op3 IH hw hf h
  by_cases n4 : f0 = 4
  ·subst n4; exact rt_op4 IH hw hf h
  by_cases n5 : f0 = 5
  ·subst n5; exact rt_op5 IH hw hf h
  by_cases n6 : f0 = 6
  ·subst n6; exact rt_op6 IH hw hf h
  by_cases n7 : f0 = 7
  ·subst n7; exact rt_op7 IH hw hf h
  by_cases n8 : f0 = 8
  ·subst n8; exact rt_op8 IH hw hf h
  by_cases n9 : f0 = 9
  ·subst n9; exact rt_op9 IH hw hf h
  by_cases n10 : f0 = 10
  ·subst n10; exact rt_op10 IH hw hf h
  by_cases n11 : f0 = 11
  ·subst n11; exact rt_op11 IH hw hf h
  by_cases n12 : f0 = 12
  ·subst n12; exact rt_op12 IH hw hf h
  exact rt_opx IH ⟨n1, n3, n4, n5, n6, n7, n8, n9, n10, n11, n12⟩ hw hf h
def pentaglotref26_Truth.f (k : Nat) (ds : List S73) (ts : List Int) (id : Int) (fs : List S62) (f0 : Int) (f1 : ByteArray) (f2 : List S92) (f3 f4 : Int) (f5 : List S32) (bnd : List ByteArray) (co m : Int) : Option Bool := rtG ds ts id fs k ⟨f0, f1, f2, f3, f4, f5⟩ bnd co m
theorem pentaglotref26_Truth.calls (k : Nat) (A0 : Option Addr) (c0 : Nat) (ds : List S73) (A1 : Option Addr) (c1 : Nat) (ts : List Int) (id : Int) (A3 : Option Addr) (c3 : Nat) (fs : List S62) (f0 : Int) (f1 : ByteArray) (A2 : Option Addr) (c2 : Nat) (f2 : List S92) (f3 f4 : Int) (A5 : Option Addr) (c5 : Nat) (f5 : List S32) (AB : Option Addr) (cB : Nat) (bnd : List ByteArray) (co m : Int) (r : Bool) (w : World)
  (hr0 : Kd.C k73 w A0 ds.length ds) (hc0 : ds.length ≤ c0) (hr1 : Kd.C (Kd.int .i64) w A1 ts.length ts) (hc1 : ts.length ≤ c1) (hr3 : Kd.C k62 w A3 fs.length fs) (hc3 : fs.length ≤ c3) (hr2 : Kd.C k92 w A2 f2.length f2) (hc2 : f2.length ≤ c2) (hr5 : Kd.C k32 w A5 f5.length f5) (hc5 : f5.length ≤ c5) (hrB : Kd.C Kd.string w AB bnd.length bnd) (hcB : bnd.length ≤ cB) (h : pentaglotref26_Truth.f k ds ts id fs f0 f1 f2 f3 f4 f5 bnd co m = some r) :
  Calls Tryd.prog 17 #[.agg #[.slice A0 ds.length c0, .slice A1 ts.length c1, .int .i64 id, .slice A3 fs.length c3], .agg #[.int .i64 f0, .string f1, .slice A2 f2.length c2, .int .i64 f3, .int .i64 f4, .slice A5 f5.length c5], .slice AB bnd.length cB, .int .i64 co, .int .i64 m] w fun e w' => e = .returned (.bool r) ∧ Below w.heap.size w w' :=
 rt_any ds ts id fs k A0 c0 A1 c1 A3 c3 ⟨f0, f1, f2, f3, f4, f5⟩ A2 c2 A5 c5 bnd AB cB co m r w ⟨hr0, hc0, hr1, hc1, hr3, hc3⟩ ⟨hr2, hc2, hr5, hc5, hrB, hcB⟩ h
def pentaglotref26_Witness.f (k : Nat) (ds : List S73) (ts : List Int) (id : Int) (fs : List S62) (f0 : Int) (f1 : ByteArray) (f2 : List S92) (f3 f4 : Int) (f5 : List S32) (bnd : List ByteArray) (co m : Int) : Option (ByteArray × Bool) := rwG ds ts id fs k (f0 == 9) f1 f5 bnd co m
theorem pentaglotref26_Witness.calls (k : Nat) (A0 : Option Addr) (c0 : Nat) (ds : List S73) (A1 : Option Addr) (c1 : Nat) (ts : List Int) (id : Int) (A3 : Option Addr) (c3 : Nat) (fs : List S62) (f0 : Int) (f1 : ByteArray) (A2 : Option Addr) (c2 : Nat) (f2 : List S92) (f3 f4 : Int) (A5 : Option Addr) (c5 : Nat) (f5 : List S32) (AB : Option Addr) (cB : Nat) (bnd : List ByteArray) (co m : Int) (r1 : ByteArray) (r2 : Bool) (w : World)
  (hr0 : Kd.C k73 w A0 ds.length ds) (hc0 : ds.length ≤ c0) (hr1 : Kd.C (Kd.int .i64) w A1 ts.length ts) (hc1 : ts.length ≤ c1) (hr3 : Kd.C k62 w A3 fs.length fs) (hc3 : fs.length ≤ c3) (hr2 : Kd.C k92 w A2 f2.length f2) (hc2 : f2.length ≤ c2) (hr5 : Kd.C k32 w A5 f5.length f5) (hc5 : f5.length ≤ c5) (hrB : Kd.C Kd.string w AB bnd.length bnd) (hcB : bnd.length ≤ cB) (h : pentaglotref26_Witness.f k ds ts id fs f0 f1 f2 f3 f4 f5 bnd co m = some (r1, r2)) :
  Calls Tryd.prog 29 #[.agg #[.slice A0 ds.length c0, .slice A1 ts.length c1, .int .i64 id, .slice A3 fs.length c3], .agg #[.int .i64 f0, .string f1, .slice A2 f2.length c2, .int .i64 f3, .int .i64 f4, .slice A5 f5.length c5], .slice AB bnd.length cB, .int .i64 co, .int .i64 m] w fun e w' => e = .returned (.tuple #[.string r1, .bool r2]) ∧ Below w.heap.size w w' :=
 rw_any (f0 := f0) (so := f0 == 9) (rt_any ds ts id fs k) rfl ⟨hr0, hc0, hr1, hc1, hr3, hc3⟩ ⟨hr2, hc2, hr5, hc5, hrB, hcB⟩ (r := (r1, r2)) h
end Go.Proofs.YtolpckflofjfhaaDoor.P
