import Derived.Test.YtolpckflofjfhaaDoorPx0
import Derived.Test.YtolpckflofjfhaaDoorPx5
import Derived.Test.YtolpckflofjfhaaDoorPx8
namespace Go.Proofs.YtolpckflofjfhaaDoor.P
open Go.RowKit Go.Proofs.YtolpckflofjfhaaDoorW.PrintWords Go.Proofs.YtolpckflofjfhaaDoorW.PrintLast Go.Proofs.YtolpckflofjfhaaDoorW.PrintMore
attribute [local go_sem] max2_int min2_int max_two min_two max_three min_three max_four min_four
set_option linter.unusedVariables false
set_option maxHeartbeats 16000000
set_option maxRecDepth 100000
set_option linter.unusedSimpArgs false
def argsG (bnd : List ByteArray) : List S92 → Option (List ByteArray)
  | [] => some []
  | x :: l => (evaluate_name.f x.f0 x.f1 x.f2 bnd).bind fun s => (argsG bnd l).bind fun r => some (s :: r)
def sameF (x : S62) (p : ByteArray) (al : List ByteArray) (m co : Int) : Bool :=
  decide (x.f1.length ≤ 3) && (x.f0.data == p.data && ((nth x.f1 0).data == (nth al 0).data && ((nth x.f1 1).data == (nth al 1).data && ((nth x.f1 2).data == (nth al 2).data && (x.f1.length == al.length && (x.f2 == m && x.f3 == co))))))
def atomG (fs : List S62) (t : S32) (bnd : List ByteArray) (co m : Int) : Option Bool :=
  if t.f2.length ≤ 3 ∧ okS t.f1 = true ∧ okI m = true ∧ okI co = true then (argsG bnd t.f2).bind fun al => if al.all okS = true then some (fs.any fun x => sameF x t.f1 al m co) else none else none
def truthG (ds : List S73) (ts : List Int) (id : Int) (fs : List S62) : Nat → S32 → List ByteArray → Int → Int → Option Bool
  | 0, _, _, _, _ => none
  | k + 1, t, bnd, co, m =>
    let kid := fun (i : Int) => if 0 ≤ i ∧ i < (t.f5.length : Int) then truthG ds ts id fs k (rd_T32 t.f5 i) bnd co m else none
    if t.f0 = 1 then some true
    else if t.f0 = 3 then atomG fs t bnd co m
    else if t.f0 = 4 then (kid 0).bind fun b => some (!b)
    else if t.f0 = 5 then someL true kid t.f5.length 0
    else if t.f0 = 6 then someL false kid t.f5.length 0
    else if t.f0 = 7 then (kid 0).bind fun b => if b = true then kid 1 else some true
    else if t.f0 = 8 then (evaluate_individuals.f k ds ts id t.f1).bind fun ns => if 0 < t.f5.length ∧ ns.1.length < 4398046511104 ∧ bnd.length < 4398046511104 then someL true (fun i => truthG ds ts id fs k (rd_T32 t.f5 0) (bnd ++ [rdOf ByteArray.empty ns.1 i]) co m) ns.1.length 0 else none
    else if t.f0 = 9 then (evaluate_individuals.f k ds ts id t.f1).bind fun ns => if 0 < t.f5.length ∧ ns.1.length < 4398046511104 ∧ bnd.length < 4398046511104 then someL false (fun i => truthG ds ts id fs k (rd_T32 t.f5 0) (bnd ++ [rdOf ByteArray.empty ns.1 i]) co m) ns.1.length 0 else none
    else if t.f0 = 10 then (evaluate_interval.f k ds ts id t.f3 t.f4).bind fun ab => if 0 < t.f5.length ∧ -4611686018427387904 ≤ ab.1 ∧ ab.2.1 ≤ 4611686018427387904 then someL true (fun i => truthG ds ts id fs k (rd_T32 t.f5 0) bnd co i) (ab.2.1 - ab.1).toNat ab.1 else none
    else if t.f0 = 11 then (if 0 < t.f5.length ∧ 0 ≤ id ∧ id < 4611686018427387904 then someL true (fun i => truthG ds ts id fs k (rd_T32 t.f5 0) bnd i m) id.toNat 1 else none)
    else if t.f0 = 12 then (if 0 < t.f5.length ∧ 0 ≤ id ∧ id < 4611686018427387904 then someL false (fun i => truthG ds ts id fs k (rd_T32 t.f5 0) bnd i m) id.toNat 1 else none)
    else some false
def TruthC (ds : List S73) (ts : List Int) (id : Int) (fs : List S62) (k : Nat) : Prop := ∀ (b : Nat) (t : S32) (A2 : Option Addr) (c2 : Nat) (A5 : Option Addr) (c5 : Nat) (bnd : List ByteArray) (AB : Option Addr) (cB : Nat) (co m : Int) (r : Bool) (w : World), Md w b ds ts id fs → Tb w → Kd.C k92 w A2 t.f2.length t.f2 → t.f2.length ≤ c2 → Kd.C k32 w A5 t.f5.length t.f5 → t.f5.length ≤ c5 → Kd.C Kd.string w AB bnd.length bnd → bnd.length ≤ cB → truthG ds ts id fs k t bnd co m = some r →
  Calls Tryd.prog 40 #[.pointer (some ⟨b, 0, none⟩), .agg #[.int .i64 t.f0, .string t.f1, .slice A2 t.f2.length c2, .int .i64 t.f3, .int .i64 t.f4, .slice A5 t.f5.length c5], .slice AB bnd.length cB, .int .i64 co, .int .i64 m] w fun e w' => e = .returned (.bool r) ∧ Below w.heap.size w w'
structure Bx (w : World) (ds : List S73) (ts : List Int) (id : Int) (fs : List S62) (b g5 g6 g7 g8 g9 : Nat) (t : S32) (A2 : Option Addr) (c2 : Nat) (A5 : Option Addr) (c5 : Nat) (bnd : List ByteArray) (AB : Option Addr) (cB : Nat) (co m : Int) : Prop where
  md : Md w b ds ts id fs
  tb : Tb w
  b5 : w.heap[g5]? = some (.cells #[.pointer (some ⟨b, 0, none⟩)] 76 (0, 0))
  b6 : w.heap[g6]? = some (.cells #[.int .i64 t.f0, .string t.f1, .slice A2 t.f2.length c2, .int .i64 t.f3, .int .i64 t.f4, .slice A5 t.f5.length c5] 32 (0, 0))
  b7 : w.heap[g7]? = some (.cells #[.slice AB bnd.length cB] 60 (0, 0))
  b8 : w.heap[g8]? = some (.cells #[.int .i64 co] 3 (0, 0))
  b9 : w.heap[g9]? = some (.cells #[.int .i64 m] 3 (0, 0))
  r2 : Kd.C k92 w A2 t.f2.length t.f2
  l2 : t.f2.length ≤ c2
  r5 : Kd.C k32 w A5 t.f5.length t.f5
  l5 : t.f5.length ≤ c5
  rB : Kd.C Kd.string w AB bnd.length bnd
  lB : bnd.length ≤ cB
theorem Bx.below {w w' : World} {ds : List S73} {ts : List Int} {id : Int} {fs : List S62} {b g5 g6 g7 g8 g9 : Nat} {t : S32} {A2 : Option Addr} {c2 : Nat} {A5 : Option Addr} {c5 : Nat} {bnd : List ByteArray} {AB : Option Addr} {cB : Nat} {co m : Int} (h : Bx w ds ts id fs b g5 g6 g7 g8 g9 t A2 c2 A5 c5 bnd AB cB co m) (hb : Below w.heap.size w w') : Bx w' ds ts id fs b g5 g6 g7 g8 g9 t A2 c2 A5 c5 bnd AB cB co m :=
  ⟨Md_below h.md hb, tb_on h.tb hb, blk_below h.b5 hb, blk_below h.b6 hb, blk_below h.b7 hb, blk_below h.b8 hb, blk_below h.b9 hb, Kd.C_below h.r2 hb, h.l2, Kd.C_below h.r5 hb, h.l5, Kd.C_below h.rB hb, h.lB⟩
theorem kid_any {ds : List S73} {ts : List Int} {id : Int} {fs : List S62} {k : Nat} (IH : TruthC ds ts id fs k) {b g5 g6 g7 g8 g9 : Nat} {t : S32} {A2 : Option Addr} {c2 : Nat} {A5 : Option Addr} {c5 : Nat} {bnd : List ByteArray} {AB : Option Addr} {cB : Nat} {co m : Int} (w : World) (hx : Bx w ds ts id fs b g5 g6 g7 g8 g9 t A2 c2 A5 c5 bnd AB cB co m) (i : Int) (r : Bool) (h0 : 0 ≤ i) (h1 : i < (t.f5.length : Int)) (h : truthG ds ts id fs k (rd_T32 t.f5 i) bnd co m = some r) :
    Calls Tryd.prog 54 #[.int .i64 i, .pointer (some ⟨g5, 0, none⟩), .pointer (some ⟨g6, 0, none⟩), .pointer (some ⟨g7, 0, none⟩), .pointer (some ⟨g8, 0, none⟩), .pointer (some ⟨g9, 0, none⟩)] w fun e w' => e = .returned (.bool r) ∧ Below w.heap.size w w' := by
  obtain ⟨ad, X2, e2, X5, e5, rfl, hk0, hk1, hk2, hk3, hk4, hk5, hl2, hg2, hl5, hg5⟩ := at_T32 hx.r5 i h0 h1
  obtain ⟨x, hxe⟩ : ∃ x, x = rd_T32 t.f5 i := ⟨_, rfl⟩
  rw [← hxe] at hk0 hk1 hk2 hk3 hk4 hk5 hl2 hg2 hl5 hg5 h
  clear hxe
  have hu32 := Tryd.underlying32
  have hu60 := Tryd.underlying60
  go_enter Tryd.func54, Tryd.ntmps54
  go_wp2
  refine start_ (n := 11) (S := fun w' => w'.cell? ⟨g5, 0, none⟩ = some (.pointer (some ⟨b, 0, none⟩)) ∧ w'.cell? ⟨g6, 5, none⟩ = some (.slice (some ad) t.f5.length c5) ∧ w'.cell? ⟨g7, 0, none⟩ = some (.slice AB bnd.length cB) ∧ w'.cell? ⟨g8, 0, none⟩ = some (.int .i64 co) ∧ w'.cell? ⟨g9, 0, none⟩ = some (.int .i64 m) ∧ w'.cell? (ad.add (i.toNat * 6)) = some (.int .i64 x.f0) ∧ w'.cell? ⟨(ad.add (i.toNat * 6)).block, (ad.add (i.toNat * 6)).off + 1, none⟩ = some (.string x.f1) ∧ w'.cell? ⟨(ad.add (i.toNat * 6)).block, (ad.add (i.toNat * 6)).off + 2, none⟩ = some (.slice X2 x.f2.length e2) ∧ w'.cell? ⟨(ad.add (i.toNat * 6)).block, (ad.add (i.toNat * 6)).off + 3, none⟩ = some (.int .i64 x.f3) ∧ w'.cell? ⟨(ad.add (i.toNat * 6)).block, (ad.add (i.toNat * 6)).off + 4, none⟩ = some (.int .i64 x.f4) ∧ w'.cell? ⟨(ad.add (i.toNat * 6)).block, (ad.add (i.toNat * 6)).off + 5, none⟩ = some (.slice X5 x.f5.length e5)) (ds := [9]) (Array.replicate 11 false) (by kernel_rfl) rfl rfl ⟨(blk_cell (blk_drew hx.b5) 0).trans rfl, (blk_cell (blk_drew hx.b6) 5).trans rfl, (blk_cell (blk_drew hx.b7) 0).trans rfl, (blk_cell (blk_drew hx.b8) 0).trans rfl, (blk_cell (blk_drew hx.b9) 0).trans rfl, hk0, hk1, hk2, hk3, hk4, hk5⟩ (fun hHeld => ?_)
  refine tk_ 0 (some 8) hHeld ?_
  refine pu_ 1 (some 9) ?_
  refine tk_ 2 (some 10) hHeld ?_
  refine pu_ 3 (some 11) ?_
  refine pu_ 4 (some 12) ?_
  refine tk_ 5 (some 13) hHeld ?_
  refine tk_ 6 (some 14) hHeld ?_
  refine tk_ 7 (some 15) hHeld ?_
  refine tk_ 8 (some 16) hHeld ?_
  refine la_ 9 (some 17) (fun K hK => ?_)
  refine go_ Tryd.func40 #[.pointer (some ⟨b, 0, none⟩), .agg #[.int .i64 x.f0, .string x.f1, .slice X2 x.f2.length e2, .int .i64 x.f3, .int .i64 x.f4, .slice X5 x.f5.length e5], .slice AB bnd.length cB, .int .i64 co, .int .i64 m] ?_
  refine (IH b x X2 e2 X5 e5 bnd AB cB co m r _ (Md_below hx.md (below_drew (Below.refl _ _))) (tb_on hx.tb (below_drew (Below.refl _ _))) (Kd.C_below hg2 (below_drew (Below.refl _ _))) hl2 (Kd.C_below hg5 (below_drew (Below.refl _ _))) hl5 (Kd.C_below hx.rB (below_drew (Below.refl _ _))) hx.lB h).mono ?_
  rintro e w1 ⟨rfl, hb1⟩
  refine ⟨_, rfl, ?_⟩
  have HB1 := mk_ (show Below w.heap.size w w1 from (below_drew (Below.refl _ _)).trans hb1)
  clear hb1
  refine hK.out _ _ ?_
  clear hK K
  refine no_ (N := some 17) ?_
  refine pu_ 10 (some 7) ?_
  refine done_ (by kernel_rfl) ?_
  go_wp2
  go_ret
  exact ⟨rfl, HB1.out⟩
theorem slice_full (A : Option Addr) (n c : Nat) (hc : n ≤ c) (hA : A = none → n = 0) (w : World) : (Instr.slice 60 (.slice A n c) none (some (.int .i64 (n : Int))) (some (.int .i64 (n : Int)))).run Tryd.prog w = .ok (.slice A n n) w := by
  have h := run_slice_hm (P := Tryd.prog) (w := w) 60 A n c (by kernel_rfl) .i64 .i64 (n : Int) (n : Int) (by omega) (Int.le_refl _) (by omega)
  rw [h]
  have hs : (sizeOf (Tryd.prog.elem 60)).run Tryd.prog w = .ok 1 w := by kernel_rfl
  rw [hs]
  simp only [Result.andThen, sliced, Int.toNat_natCast, Nat.sub_zero]
  by_cases h0 : n = 0
  · subst h0; rfl
  · rw [if_neg h0]
    cases A with
    | none => exact absurd (hA rfl) h0
    | some a => cases a; rfl
theorem noaddr {w : World} {n : Nat} {l : List ByteArray} (h : Kd.C Kd.string w none n l) : n = 0 := by
  rcases Nat.eq_zero_or_pos n with h0 | h0
  · exact h0
  · obtain ⟨ad, e, _⟩ := h.2.2 h0
    cases e
theorem news1 (w : World) (s : ByteArray) (t : Nat) : ∀ (j : Nat) (u : Value), ([Value.string s] : List Value)[j]? = some u → (w.alloc (.cells #[.string s] t)).cell? ((⟨w.heap.size, 0, none⟩ : Addr).add j) = some u :=
  cell_one_new w (.string s) t
theorem str_own {w : World} {base n : Nat} {v : Value} {bnd : List ByteArray} {s : ByteArray} (h : w.ownsRow base 9 1 v (n + 1) (bnd.map Value.string ++ [.string s])) : ∃ ab cb, v = .slice (some ab) (bnd.length + 1) cb ∧ (bnd ++ [s]).length ≤ cb ∧ Kd.C Kd.string w (some ab) (bnd ++ [s]).length (bnd ++ [s]) := by
  have h' := h
  obtain ⟨hl, h0 | ⟨g, cap, cur, rfl, hb, hh, hle, hm, hs, htk⟩⟩ := h
  · exact absurd h0.2 (by omega)
  · have hn : n = bnd.length := by simp at hl; omega
    subst hn
    have hcell := h'.cells (g := g) rfl
    refine ⟨⟨g, 0, none⟩, cap, rfl, by simpa using hle, by simp, by simp only [maxLen] at hm; simp; omega, fun _ => ⟨⟨g, 0, none⟩, rfl, fun j p hp => ⟨[.string p], rfl, rfl, fun i u hu => ?_⟩⟩⟩
    have hi : i = 0 := by have := (List.getElem?_eq_some_iff.1 hu).1; simp at this; omega
    subst hi
    obtain rfl : Value.string p = u := by simpa using hu
    refine hcell (j * 1 + 0) _ ?_
    rw [Nat.mul_one, Nat.add_zero]
    have e : (bnd.map Value.string ++ [Value.string s]) = (bnd ++ [s]).map Value.string := by simp
    rw [e, List.getElem?_map]
    show ((bnd ++ [s])[j]?).map Value.string = _
    rw [hp]
    rfl
theorem bound_any {ds : List S73} {ts : List Int} {id : Int} {fs : List S62} {k : Nat} (IH : TruthC ds ts id fs k) {b g5 g6 g7 g8 g9 : Nat} {t : S32} {A2 : Option Addr} {c2 : Nat} {A5 : Option Addr} {c5 : Nat} {bnd : List ByteArray} {AB : Option Addr} {cB : Nat} {co m : Int} (w : World) (hx : Bx w ds ts id fs b g5 g6 g7 g8 g9 t A2 c2 A5 c5 bnd AB cB co m) {gn : Nat} {ns : List ByteArray} {AN : Option Addr} {cN : Nat} (hn0 : w.heap[gn]? = some (.cells #[.slice AN ns.length cN] 60 (0, 0))) (hN : Kd.C Kd.string w AN ns.length ns) (i : Int) (r : Bool) (h0 : 0 ≤ i) (hi : i < (ns.length : Int)) (h1 : 0 < t.f5.length) (hlb : bnd.length < 4398046511104) (h : truthG ds ts id fs k (rd_T32 t.f5 0) (bnd ++ [rdOf ByteArray.empty ns i]) co m = some r) :
    Calls Tryd.prog 56 #[.int .i64 i, .pointer (some ⟨g5, 0, none⟩), .pointer (some ⟨g6, 0, none⟩), .pointer (some ⟨g7, 0, none⟩), .pointer (some ⟨gn, 0, none⟩), .pointer (some ⟨g8, 0, none⟩), .pointer (some ⟨g9, 0, none⟩)] w fun e w' => e = .returned (.bool r) ∧ Below w.heap.size w w' := by
  obtain ⟨ad, X2, e2, X5, e5, rfl, hk0, hk1, hk2, hk3, hk4, hk5, hl2, hg2, hl5, hg5⟩ := at_T32 hx.r5 0 (Int.le_refl _) (by omega)
  obtain ⟨x, hxe⟩ : ∃ x, x = rd_T32 t.f5 0 := ⟨_, rfl⟩
  rw [← hxe] at hk0 hk1 hk2 hk3 hk4 hk5 hl2 hg2 hl5 hg5 h
  clear hxe
  have ea : ad.add ((0 : Int).toNat * 6) = ad := by cases ad; rfl
  rw [ea] at hk0 hk1 hk2 hk3 hk4 hk5
  clear ea
  obtain ⟨an, rfl, hnm⟩ := Kd.at_string hN i h0 hi
  have hn := hn0
  clear hn0
  obtain ⟨s, hs⟩ : ∃ s, s = rdOf ByteArray.empty ns i := ⟨_, rfl⟩
  rw [← hs] at hnm h
  clear hs
  have p0 : (0 ≤ i) = True := eq_true h0
  have p1 : (i < (ns.length : Int)) = True := eq_true hi
  have hsl := slice_full AB bnd.length cB hx.lB (fun e => noaddr (e ▸ hx.rB))
  have hu32 := Tryd.underlying32
  have hu60 := Tryd.underlying60
  have f0 : w.cell? ⟨g5, 0, none⟩ = some (.pointer (some ⟨b, 0, none⟩)) := (blk_cell (hx.b5) 0).trans rfl
  have f1 : w.cell? ⟨g6, 5, none⟩ = some (.slice (some ad) t.f5.length c5) := (blk_cell (hx.b6) 5).trans rfl
  have f2 : w.cell? ⟨g7, 0, none⟩ = some (.slice AB bnd.length cB) := (blk_cell (hx.b7) 0).trans rfl
  have f3 : w.cell? ⟨g8, 0, none⟩ = some (.int .i64 co) := (blk_cell (hx.b8) 0).trans rfl
  have f4 : w.cell? ⟨g9, 0, none⟩ = some (.int .i64 m) := (blk_cell (hx.b9) 0).trans rfl
  have f5 : w.cell? ⟨gn, 0, none⟩ = some (.slice (some an) ns.length cN) := (blk_cell (hn) 0).trans rfl
  have f6 : w.cell? (an.add i.toNat) = some (.string (s)) := hnm
  have f7 : w.cell? ad = some (.int .i64 x.f0) := hk0
  have f8 : w.cell? ⟨ad.block, ad.off + 1, none⟩ = some (.string x.f1) := hk1
  have f9 : w.cell? ⟨ad.block, ad.off + 2, none⟩ = some (.slice X2 x.f2.length e2) := hk2
  have f10 : w.cell? ⟨ad.block, ad.off + 3, none⟩ = some (.int .i64 x.f3) := hk3
  have f11 : w.cell? ⟨ad.block, ad.off + 4, none⟩ = some (.int .i64 x.f4) := hk4
  have f12 : w.cell? ⟨ad.block, ad.off + 5, none⟩ = some (.slice X5 x.f5.length e5) := hk5
  have call19 : ∀ W, Below w.heap.size w W → ∀ (ab : Option Addr) (cb : Nat), Kd.C Kd.string W ab (bnd ++ [s]).length (bnd ++ [s]) → (bnd ++ [s]).length ≤ cb → Calls Tryd.prog 40 #[.pointer (some ⟨b, 0, none⟩), .agg #[.int .i64 x.f0, .string x.f1, .slice X2 x.f2.length e2, .int .i64 x.f3, .int .i64 x.f4, .slice X5 x.f5.length e5], .slice ab (bnd.length + 1) cb, .int .i64 co, .int .i64 m] W fun e w' => e = .returned (.bool r) ∧ Below W.heap.size W w' := by
    intro W hW ab cb hC hcb
    have := IH b x X2 e2 X5 e5 (bnd ++ [s]) ab cb co m r W (Md_below hx.md hW) (tb_on hx.tb hW) (Kd.C_below hg2 hW) hl2 (Kd.C_below hg5 hW) hl5 hC hcb h
    rwa [show (bnd ++ [s]).length = bnd.length + 1 by simp] at this
  go_enter Tryd.func56, Tryd.ntmps56
  go_wp2
  refine start_ (n := 21) (S := fun w' => w'.cell? ⟨g5, 0, none⟩ = some (.pointer (some ⟨b, 0, none⟩)) ∧ w'.cell? ⟨g6, 5, none⟩ = some (.slice (some ad) t.f5.length c5) ∧ w'.cell? ⟨g7, 0, none⟩ = some (.slice AB bnd.length cB) ∧ w'.cell? ⟨g8, 0, none⟩ = some (.int .i64 co) ∧ w'.cell? ⟨g9, 0, none⟩ = some (.int .i64 m) ∧ w'.cell? ⟨gn, 0, none⟩ = some (.slice (some an) ns.length cN) ∧ w'.cell? (an.add i.toNat) = some (.string (s)) ∧ w'.cell? ad = some (.int .i64 x.f0) ∧ w'.cell? ⟨ad.block, ad.off + 1, none⟩ = some (.string x.f1) ∧ w'.cell? ⟨ad.block, ad.off + 2, none⟩ = some (.slice X2 x.f2.length e2) ∧ w'.cell? ⟨ad.block, ad.off + 3, none⟩ = some (.int .i64 x.f3) ∧ w'.cell? ⟨ad.block, ad.off + 4, none⟩ = some (.int .i64 x.f4) ∧ w'.cell? ⟨ad.block, ad.off + 5, none⟩ = some (.slice X5 x.f5.length e5)) (ds := [19]) (Array.replicate 21 false) (by kernel_rfl) rfl rfl ⟨f0, f1, f2, f3, f4, f5, f6, f7, f8, f9, f10, f11, f12⟩ (fun hHeld => ?_)
  refine tk_ 0 (some 9) hHeld ?_
  refine pu_ 1 (some 10) ?_
  refine tk_ 2 (some 11) hHeld ?_
  refine pu_ 3 (some 12) ?_
  refine tk_ 4 (some 13) hHeld ?_
  refine tk_ 5 (some 14) hHeld ?_
  refine tk_ 6 (some 15) hHeld ?_
  refine pu_ 7 (some 16) ?_
  refine tk_ 8 (some 17) hHeld ?_
  refine pu_ 9 (some 18) ?_
  refine pu_ 10 (some 19) ?_
  refine tk_ 11 (some 20) hHeld ?_
  refine pu_ 12 (some 21) ?_
  refine pu_ 13 (some 22) ?_
  refine tk_ 14 (some 23) hHeld ?_
  refine tk_ 17 (some 26) hHeld ?_
  refine tk_ 18 (some 27) hHeld ?_
  refine on_ 15 (some 24) (fun K hK => ?_)
  refine value_ (w1 := ?_) (v := ?_) (by rfl) rfl ?_ ?_
  rotate_left 2
  · go_simp
    constructor
    · rfl
    · rfl
  have HZ := mk_ (below_alloc (below_drew (Below.refl w.heap.size w)) (.cells #[.string s] 9))
  refine hK.out _ _ ⟨((HZ.out.cell (p := ⟨g5, 0, none⟩) (World.block_lt_of_cell? _ _ f0)).trans f0), ((HZ.out.cell (p := ⟨g6, 5, none⟩) (World.block_lt_of_cell? _ _ f1)).trans f1), ((HZ.out.cell (p := ⟨g7, 0, none⟩) (World.block_lt_of_cell? _ _ f2)).trans f2), ((HZ.out.cell (p := ⟨g8, 0, none⟩) (World.block_lt_of_cell? _ _ f3)).trans f3), ((HZ.out.cell (p := ⟨g9, 0, none⟩) (World.block_lt_of_cell? _ _ f4)).trans f4), ((HZ.out.cell (p := ⟨gn, 0, none⟩) (World.block_lt_of_cell? _ _ f5)).trans f5), ((HZ.out.cell (p := (an.add i.toNat)) (World.block_lt_of_cell? _ _ f6)).trans f6), ((HZ.out.cell (p := ad) (World.block_lt_of_cell? _ _ f7)).trans f7), ((HZ.out.cell (p := ⟨ad.block, ad.off + 1, none⟩) (World.block_lt_of_cell? _ _ f8)).trans f8), ((HZ.out.cell (p := ⟨ad.block, ad.off + 2, none⟩) (World.block_lt_of_cell? _ _ f9)).trans f9), ((HZ.out.cell (p := ⟨ad.block, ad.off + 3, none⟩) (World.block_lt_of_cell? _ _ f10)).trans f10), ((HZ.out.cell (p := ⟨ad.block, ad.off + 4, none⟩) (World.block_lt_of_cell? _ _ f11)).trans f11), ((HZ.out.cell (p := ⟨ad.block, ad.off + 5, none⟩) (World.block_lt_of_cell? _ _ f12)).trans f12)⟩ (fun hHeld => ?_)
  clear hK K
  refine no_ (N := some 24) ?_
  refine on_ 16 (some 25) (fun K hK => ?_)
  obtain ⟨i0, hi0, hz0, hz1, hz2⟩ := info_parts info9
  refine step_append_grows _ rfl rfl (.tmp 19) (.tmp 24) 60 rfl 9 i0 (.string ⟨#[]⟩) 1 16 Tryd.underlying60 hi0 hz0 hz1 hz2 rfl (by decide) AB bnd.length bnd.length (bnd.map Value.string) (by rfl) (fun e => ⟨noaddr (e ▸ hx.rB), noaddr (e ▸ hx.rB)⟩) (by simp) ?_ ⟨w.heap.size, 0, none⟩ 1 1 [.string s] (by rfl) rfl ?_ (by simp [Value.oneCell']) (by omega) (by simp only [maxLen]; omega) (by omega) ?_
  · intro b0 e0 j u hj
    subst e0
    have hp : 0 < bnd.length := by have := (List.getElem?_eq_some_iff.1 hj).1; simp at this; omega
    obtain ⟨ad', e1, hc⟩ := str_cells (Kd.C_below hx.rB HZ.out) hp
    injection e1 with e1
    subst e1
    exact hc j u hj
  · intro j u hj
    exact news1 _ _ _ j u hj
  intro vB w2 ho hg
  have HG := mk_ (show Below w.heap.size w w2 from HZ.out.trans ⟨hg.os, hg.tape, hg.output, hg.size, fun k hk => hg.block k (Nat.lt_of_lt_of_le hk HZ.out.size) (by simp)⟩)
  obtain ⟨ab, cb, rfl, hcb, hCb⟩ := str_own ho
  have HC := mk_ hCb
  have HCB := mk_ hcb
  clear ho hg hCb hcb
  refine hK.out _ _ ⟨((HG.out.cell (p := ⟨g5, 0, none⟩) (World.block_lt_of_cell? _ _ f0)).trans f0), ((HG.out.cell (p := ⟨g6, 5, none⟩) (World.block_lt_of_cell? _ _ f1)).trans f1), ((HG.out.cell (p := ⟨g7, 0, none⟩) (World.block_lt_of_cell? _ _ f2)).trans f2), ((HG.out.cell (p := ⟨g8, 0, none⟩) (World.block_lt_of_cell? _ _ f3)).trans f3), ((HG.out.cell (p := ⟨g9, 0, none⟩) (World.block_lt_of_cell? _ _ f4)).trans f4), ((HG.out.cell (p := ⟨gn, 0, none⟩) (World.block_lt_of_cell? _ _ f5)).trans f5), ((HG.out.cell (p := (an.add i.toNat)) (World.block_lt_of_cell? _ _ f6)).trans f6), ((HG.out.cell (p := ad) (World.block_lt_of_cell? _ _ f7)).trans f7), ((HG.out.cell (p := ⟨ad.block, ad.off + 1, none⟩) (World.block_lt_of_cell? _ _ f8)).trans f8), ((HG.out.cell (p := ⟨ad.block, ad.off + 2, none⟩) (World.block_lt_of_cell? _ _ f9)).trans f9), ((HG.out.cell (p := ⟨ad.block, ad.off + 3, none⟩) (World.block_lt_of_cell? _ _ f10)).trans f10), ((HG.out.cell (p := ⟨ad.block, ad.off + 4, none⟩) (World.block_lt_of_cell? _ _ f11)).trans f11), ((HG.out.cell (p := ⟨ad.block, ad.off + 5, none⟩) (World.block_lt_of_cell? _ _ f12)).trans f12)⟩ (fun hHeld => ?_)
  clear hK K
  refine no_ (N := some 25) ?_
  refine la_ 19 (some 28) (fun K hK => ?_)
  refine go_ Tryd.func40 #[.pointer (some ⟨b, 0, none⟩), .agg #[.int .i64 x.f0, .string x.f1, .slice X2 x.f2.length e2, .int .i64 x.f3, .int .i64 x.f4, .slice X5 x.f5.length e5], .slice (some ab) (bnd.length + 1) cb, .int .i64 co, .int .i64 m] ?_
  refine (call19 _ HG.out (some ab) cb HC.out HCB.out).mono ?_
  rintro e w1 ⟨rfl, hb1⟩
  refine ⟨_, rfl, ?_⟩
  have HB1 := mk_ (HG.out.trans (hb1.mono HG.out.size))
  clear hb1
  refine hK.out _ _ ?_
  clear hK K
  refine no_ (N := some 28) ?_
  refine pu_ 20 (some 8) ?_
  refine done_ (by kernel_rfl) ?_
  go_wp2
  go_ret
  exact ⟨rfl, HB1.out⟩
theorem during_any {ds : List S73} {ts : List Int} {id : Int} {fs : List S62} {k : Nat} (IH : TruthC ds ts id fs k) {b g5 g6 g7 g8 g9 : Nat} {t : S32} {A2 : Option Addr} {c2 : Nat} {A5 : Option Addr} {c5 : Nat} {bnd : List ByteArray} {AB : Option Addr} {cB : Nat} {co m : Int} (w : World) (hx : Bx w ds ts id fs b g5 g6 g7 g8 g9 t A2 c2 A5 c5 bnd AB cB co m) (i : Int) (r : Bool) (h1 : 0 < t.f5.length) (h : truthG ds ts id fs k (rd_T32 t.f5 0) bnd co i = some r) :
    Calls Tryd.prog 57 #[.int .i64 i, .pointer (some ⟨g5, 0, none⟩), .pointer (some ⟨g6, 0, none⟩), .pointer (some ⟨g7, 0, none⟩), .pointer (some ⟨g8, 0, none⟩)] w fun e w' => e = .returned (.bool r) ∧ Below w.heap.size w w' := by
  obtain ⟨ad, X2, e2, X5, e5, rfl, hk0, hk1, hk2, hk3, hk4, hk5, hl2, hg2, hl5, hg5⟩ := at_T32 hx.r5 0 (Int.le_refl _) (by omega)
  obtain ⟨x, hxe⟩ : ∃ x, x = rd_T32 t.f5 0 := ⟨_, rfl⟩
  rw [← hxe] at hk0 hk1 hk2 hk3 hk4 hk5 hl2 hg2 hl5 hg5 h
  clear hxe
  have ea : ad.add ((0 : Int).toNat * 6) = ad := by cases ad; rfl
  rw [ea] at hk0 hk1 hk2 hk3 hk4 hk5
  clear ea
  have hu32 := Tryd.underlying32
  have hu60 := Tryd.underlying60
  go_enter Tryd.func57, Tryd.ntmps57
  go_wp2
  refine start_ (n := 10) (S := fun w' => w'.cell? ⟨g5, 0, none⟩ = some (.pointer (some ⟨b, 0, none⟩)) ∧ w'.cell? ⟨g6, 5, none⟩ = some (.slice (some ad) t.f5.length c5) ∧ w'.cell? ⟨g7, 0, none⟩ = some (.slice AB bnd.length cB) ∧ w'.cell? ⟨g8, 0, none⟩ = some (.int .i64 co) ∧ w'.cell? ad = some (.int .i64 x.f0) ∧ w'.cell? ⟨ad.block, ad.off + 1, none⟩ = some (.string x.f1) ∧ w'.cell? ⟨ad.block, ad.off + 2, none⟩ = some (.slice X2 x.f2.length e2) ∧ w'.cell? ⟨ad.block, ad.off + 3, none⟩ = some (.int .i64 x.f3) ∧ w'.cell? ⟨ad.block, ad.off + 4, none⟩ = some (.int .i64 x.f4) ∧ w'.cell? ⟨ad.block, ad.off + 5, none⟩ = some (.slice X5 x.f5.length e5)) (ds := [8]) (Array.replicate 10 false) (by kernel_rfl) rfl rfl ⟨(blk_cell (blk_drew hx.b5) 0).trans rfl, (blk_cell (blk_drew hx.b6) 5).trans rfl, (blk_cell (blk_drew hx.b7) 0).trans rfl, (blk_cell (blk_drew hx.b8) 0).trans rfl, hk0, hk1, hk2, hk3, hk4, hk5⟩ (fun hHeld => ?_)
  refine tk_ 0 (some 7) hHeld ?_
  refine pu_ 1 (some 8) ?_
  refine tk_ 2 (some 9) hHeld ?_
  refine pu_ 3 (some 10) ?_
  refine tk_ 4 (some 11) hHeld ?_
  refine tk_ 5 (some 12) hHeld ?_
  refine tk_ 6 (some 13) hHeld ?_
  refine pu_ 7 (some 14) ?_
  refine la_ 8 (some 15) (fun K hK => ?_)
  refine go_ Tryd.func40 #[.pointer (some ⟨b, 0, none⟩), .agg #[.int .i64 x.f0, .string x.f1, .slice X2 x.f2.length e2, .int .i64 x.f3, .int .i64 x.f4, .slice X5 x.f5.length e5], .slice AB bnd.length cB, .int .i64 co, .int .i64 i] ?_
  refine (IH b x X2 e2 X5 e5 bnd AB cB co i r _ (Md_below hx.md (below_drew (Below.refl _ _))) (tb_on hx.tb (below_drew (Below.refl _ _))) (Kd.C_below hg2 (below_drew (Below.refl _ _))) hl2 (Kd.C_below hg5 (below_drew (Below.refl _ _))) hl5 (Kd.C_below hx.rB (below_drew (Below.refl _ _))) hx.lB h).mono ?_
  rintro e w1 ⟨rfl, hb1⟩
  refine ⟨_, rfl, ?_⟩
  have HB1 := mk_ (show Below w.heap.size w w1 from (below_drew (Below.refl _ _)).trans hb1)
  clear hb1
  refine hK.out _ _ ?_
  clear hK K
  refine no_ (N := some 15) ?_
  refine pu_ 9 (some 6) ?_
  refine done_ (by kernel_rfl) ?_
  go_wp2
  go_ret
  exact ⟨rfl, HB1.out⟩
theorem ideal_any {ds : List S73} {ts : List Int} {id : Int} {fs : List S62} {k : Nat} (IH : TruthC ds ts id fs k) {b g5 g6 g7 g8 g9 : Nat} {t : S32} {A2 : Option Addr} {c2 : Nat} {A5 : Option Addr} {c5 : Nat} {bnd : List ByteArray} {AB : Option Addr} {cB : Nat} {co m : Int} (w : World) (hx : Bx w ds ts id fs b g5 g6 g7 g8 g9 t A2 c2 A5 c5 bnd AB cB co m) (i : Int) (r : Bool) (h1 : 0 < t.f5.length) (h : truthG ds ts id fs k (rd_T32 t.f5 0) bnd i m = some r) :
    Calls Tryd.prog 58 #[.int .i64 i, .pointer (some ⟨g5, 0, none⟩), .pointer (some ⟨g6, 0, none⟩), .pointer (some ⟨g7, 0, none⟩), .pointer (some ⟨g9, 0, none⟩)] w fun e w' => e = .returned (.bool r) ∧ Below w.heap.size w w' := by
  obtain ⟨ad, X2, e2, X5, e5, rfl, hk0, hk1, hk2, hk3, hk4, hk5, hl2, hg2, hl5, hg5⟩ := at_T32 hx.r5 0 (Int.le_refl _) (by omega)
  obtain ⟨x, hxe⟩ : ∃ x, x = rd_T32 t.f5 0 := ⟨_, rfl⟩
  rw [← hxe] at hk0 hk1 hk2 hk3 hk4 hk5 hl2 hg2 hl5 hg5 h
  clear hxe
  have ea : ad.add ((0 : Int).toNat * 6) = ad := by cases ad; rfl
  rw [ea] at hk0 hk1 hk2 hk3 hk4 hk5
  clear ea
  have hu32 := Tryd.underlying32
  have hu60 := Tryd.underlying60
  go_enter Tryd.func58, Tryd.ntmps58
  go_wp2
  refine start_ (n := 10) (S := fun w' => w'.cell? ⟨g5, 0, none⟩ = some (.pointer (some ⟨b, 0, none⟩)) ∧ w'.cell? ⟨g6, 5, none⟩ = some (.slice (some ad) t.f5.length c5) ∧ w'.cell? ⟨g7, 0, none⟩ = some (.slice AB bnd.length cB) ∧ w'.cell? ⟨g9, 0, none⟩ = some (.int .i64 m) ∧ w'.cell? ad = some (.int .i64 x.f0) ∧ w'.cell? ⟨ad.block, ad.off + 1, none⟩ = some (.string x.f1) ∧ w'.cell? ⟨ad.block, ad.off + 2, none⟩ = some (.slice X2 x.f2.length e2) ∧ w'.cell? ⟨ad.block, ad.off + 3, none⟩ = some (.int .i64 x.f3) ∧ w'.cell? ⟨ad.block, ad.off + 4, none⟩ = some (.int .i64 x.f4) ∧ w'.cell? ⟨ad.block, ad.off + 5, none⟩ = some (.slice X5 x.f5.length e5)) (ds := [8]) (Array.replicate 10 false) (by kernel_rfl) rfl rfl ⟨(blk_cell (blk_drew hx.b5) 0).trans rfl, (blk_cell (blk_drew hx.b6) 5).trans rfl, (blk_cell (blk_drew hx.b7) 0).trans rfl, (blk_cell (blk_drew hx.b9) 0).trans rfl, hk0, hk1, hk2, hk3, hk4, hk5⟩ (fun hHeld => ?_)
  refine tk_ 0 (some 7) hHeld ?_
  refine pu_ 1 (some 8) ?_
  refine tk_ 2 (some 9) hHeld ?_
  refine pu_ 3 (some 10) ?_
  refine tk_ 4 (some 11) hHeld ?_
  refine tk_ 5 (some 12) hHeld ?_
  refine pu_ 6 (some 13) ?_
  refine tk_ 7 (some 14) hHeld ?_
  refine la_ 8 (some 15) (fun K hK => ?_)
  refine go_ Tryd.func40 #[.pointer (some ⟨b, 0, none⟩), .agg #[.int .i64 x.f0, .string x.f1, .slice X2 x.f2.length e2, .int .i64 x.f3, .int .i64 x.f4, .slice X5 x.f5.length e5], .slice AB bnd.length cB, .int .i64 i, .int .i64 m] ?_
  refine (IH b x X2 e2 X5 e5 bnd AB cB i m r _ (Md_below hx.md (below_drew (Below.refl _ _))) (tb_on hx.tb (below_drew (Below.refl _ _))) (Kd.C_below hg2 (below_drew (Below.refl _ _))) hl2 (Kd.C_below hg5 (below_drew (Below.refl _ _))) hl5 (Kd.C_below hx.rB (below_drew (Below.refl _ _))) hx.lB h).mono ?_
  rintro e w1 ⟨rfl, hb1⟩
  refine ⟨_, rfl, ?_⟩
  have HB1 := mk_ (show Below w.heap.size w w1 from (below_drew (Below.refl _ _)).trans hb1)
  clear hb1
  refine hK.out _ _ ?_
  clear hK K
  refine no_ (N := some 15) ?_
  refine pu_ 9 (some 6) ?_
  refine done_ (by kernel_rfl) ?_
  go_wp2
  go_ret
  exact ⟨rfl, HB1.out⟩
theorem hc1_ {w : World} {g : Nat} {t : TypeId} {v : Value} (h : w.heap[g]? = some (.cells #[v] t (0, 0))) : w.cell? ⟨g, 0, none⟩ = some v := (blk_cell h 0).trans rfl
theorem bl_ {w w1 : World} {g : Nat} {o : Obj} (h : Aside0 (w.heap[g]? = some o)) (hb : Below w.heap.size w w1) : Aside0 (w1.heap[g]? = some o) := ⟨blk_below h.out hb⟩
theorem bx5_ {w0 w : World} {ds : List S73} {ts : List Int} {id : Int} {fs : List S62} {b g5 g6 g7 g8 g9 : Nat} {t : S32} {A2 : Option Addr} {c2 : Nat} {A5 : Option Addr} {c5 : Nat} {bnd : List ByteArray} {AB : Option Addr} {cB : Nat} {co m : Int} (h1 : Aside0 (Md w0 b ds ts id fs)) (h2 : Aside0 (Tb w0)) (h3 : Aside0 (Kd.C k92 w0 A2 t.f2.length t.f2)) (h4 : Aside0 (Kd.C k32 w0 A5 t.f5.length t.f5)) (h5 : Aside0 (Kd.C Kd.string w0 AB bnd.length bnd)) (h6 : Aside0 (t.f2.length ≤ c2 ∧ t.f5.length ≤ c5 ∧ bnd.length ≤ cB)) (hb : Aside0 (Below w0.heap.size w0 w))
    (b5 : Aside0 (w.heap[g5]? = some (.cells #[.pointer (some ⟨b, 0, none⟩)] 76 (0, 0)))) (b6 : Aside0 (w.heap[g6]? = some (.cells #[.int .i64 t.f0, .string t.f1, .slice A2 t.f2.length c2, .int .i64 t.f3, .int .i64 t.f4, .slice A5 t.f5.length c5] 32 (0, 0)))) (b7 : Aside0 (w.heap[g7]? = some (.cells #[.slice AB bnd.length cB] 60 (0, 0)))) (b8 : Aside0 (w.heap[g8]? = some (.cells #[.int .i64 co] 3 (0, 0)))) (b9 : Aside0 (w.heap[g9]? = some (.cells #[.int .i64 m] 3 (0, 0)))) : Bx w ds ts id fs b g5 g6 g7 g8 g9 t A2 c2 A5 c5 bnd AB cB co m :=
  ⟨Md_below h1.out hb.out, tb_on h2.out hb.out, b5.out, b6.out, b7.out, b8.out, b9.out, Kd.C_below h3.out hb.out, h6.out.1, Kd.C_below h4.out hb.out, h6.out.2.1, Kd.C_below h5.out hb.out, h6.out.2.2⟩
def TruthAt (ds : List S73) (ts : List Int) (id : Int) (fs : List S62) (k : Nat) (P : S32 → Prop) : Prop := ∀ (b : Nat) (t : S32) (A2 : Option Addr) (c2 : Nat) (A5 : Option Addr) (c5 : Nat) (bnd : List ByteArray) (AB : Option Addr) (cB : Nat) (co m : Int) (r : Bool) (w : World), P t → Md w b ds ts id fs → Tb w → Kd.C k92 w A2 t.f2.length t.f2 → t.f2.length ≤ c2 → Kd.C k32 w A5 t.f5.length t.f5 → t.f5.length ≤ c5 → Kd.C Kd.string w AB bnd.length bnd → bnd.length ≤ cB → truthG ds ts id fs (k + 1) t bnd co m = some r →
  Calls Tryd.prog 40 #[.pointer (some ⟨b, 0, none⟩), .agg #[.int .i64 t.f0, .string t.f1, .slice A2 t.f2.length c2, .int .i64 t.f3, .int .i64 t.f4, .slice A5 t.f5.length c5], .slice AB bnd.length cB, .int .i64 co, .int .i64 m] w fun e w' => e = .returned (.bool r) ∧ Below w.heap.size w w'
theorem truth_op1 {ds : List S73} {ts : List Int} {id : Int} {fs : List S62} {k : Nat} (IH : TruthC ds ts id fs k) : TruthAt ds ts id fs k (fun t => t.f0 = 1) := by
  intro b t A2 c2 A5 c5 bnd AB cB co m r w hop hmd htb hr2 hl2 hr5 hl5 hrB hlB h
  rw [truthG] at h
  simp only [hop, Int.reduceEq, ↓reduceIte] at h
  obtain rfl := Option.some.inj h
  clear h
  have HOP := mk_ hop
  have HMD := mk_ hmd
  have HTB := mk_ htb
  have HR2 := mk_ hr2
  have HR5 := mk_ hr5
  have HRB := mk_ hrB
  have HL := mk_ (And.intro hl2 (And.intro hl5 hlB))
  show Calls Tryd.prog 40 #[.pointer (some ⟨b, 0, none⟩), .agg #[.int .i64 t.f0, .string t.f1, .slice A2 t.f2.length c2, .int .i64 t.f3, .int .i64 t.f4, .slice A5 t.f5.length c5], .slice AB bnd.length cB, .int .i64 co, .int .i64 m] w _
  rw [hop]
  clear hop hmd htb hr2 hl2 hr5 hl5 hrB hlB
  have hu32 := Tryd.underlying32
  have hu84 := Tryd.underlying84
  have hu98 := Tryd.underlying98
  have hu92 := Tryd.underlying92
  have hu25 := Tryd.underlying25
  have HB0 := mk_ (Below.refl w.heap.size w)
  have T6 : True := trivial
  have T7 : True := trivial
  have T8 : True := trivial
  go_enter Tryd.func40, Tryd.ntmps40
  go_wp2_with (first
    | ((with_reducible refine gate_dst (N := 5) rfl ?_); refine bx_ 5 #[.pointer (some ⟨b, 0, none⟩)] 76 ?_; intro g5 hg w1 hbox hb; have BB5 := mk_ hbox; have HB1 := mk_ (below_step HB0.out hb); clear hb hbox hg HB0)
    | ((with_reducible refine gate_dst (N := 6) rfl ?_); refine bx_ 6 #[.int .i64 1, .string t.f1, .slice A2 t.f2.length c2, .int .i64 t.f3, .int .i64 t.f4, .slice A5 t.f5.length c5] 32 ?_; intro g6 hg w2 hbox hb; replace BB5 := bl_ BB5 hb; have BB6 := mk_ hbox; have HB2 := mk_ (below_step HB1.out hb); clear hb hbox hg HB1)
    | ((with_reducible refine gate_dst (N := 7) rfl ?_); refine bx_ 7 #[.slice AB bnd.length cB] 60 ?_; intro g7 hg w3 hbox hb; replace BB5 := bl_ BB5 hb; replace BB6 := bl_ BB6 hb; have BB7 := mk_ hbox; have HB3 := mk_ (below_step HB2.out hb); clear hb hbox hg HB2)
    | ((with_reducible refine gate_dst (N := 8) rfl ?_); refine bx_ 8 #[.int .i64 co] 3 ?_; intro g8 hg w4 hbox hb; replace BB5 := bl_ BB5 hb; replace BB6 := bl_ BB6 hb; replace BB7 := bl_ BB7 hb; have BB8 := mk_ hbox; have HB4 := mk_ (below_step HB3.out hb); clear hb hbox hg HB3)
    | ((with_reducible refine gate_dst (N := 9) rfl ?_); refine bx_ 9 #[.int .i64 m] 3 ?_; intro g9 hg w5 hbox hb; replace BB5 := bl_ BB5 hb; replace BB6 := bl_ BB6 hb; replace BB7 := bl_ BB7 hb; replace BB8 := bl_ BB8 hb; have BB9 := mk_ hbox; have HB5 := mk_ (below_step HB4.out hb); clear hb hbox hg HB4; have BX := mk_ (bx5_ HMD HTB HR2 HR5 HRB HL HB5 BB5 ⟨HOP.out ▸ BB6.out⟩ BB7 BB8 BB9); clear BB5 BB6 BB7 BB8 BB9 HMD HTB HR2 HR5 HRB; have z50 := hc1_ BX.out.b5; obtain ⟨y0, y1, y2, y3, y4, y5, -, -, -, -, -, -⟩ := hb6_ ⟨BX.out.b6⟩; have z70 := hc1_ BX.out.b7; have z80 := hc1_ BX.out.b8; have z90 := hc1_ BX.out.b9; rw [HOP.out] at y0))
  go_ret
  exact ⟨rfl, HB5.out⟩
theorem argsG_at {bnd : List ByteArray} : ∀ {l : List S92} {al : List ByteArray}, argsG bnd l = some al → al.length = l.length ∧ ∀ i : Nat, i < l.length → evaluate_name.f (rd_T92 l i).f0 (rd_T92 l i).f1 (rd_T92 l i).f2 bnd = some (nth al i)
  | [], al, h => by
    rw [argsG] at h
    obtain rfl := Option.some.inj h
    exact ⟨rfl, fun i hi => absurd hi (Nat.not_lt_zero i)⟩
  | x :: l, al, h => by
    rw [argsG] at h
    obtain ⟨s, hs, h⟩ := Option.bind_eq_some_iff.1 h
    obtain ⟨q, hq, h⟩ := Option.bind_eq_some_iff.1 h
    obtain rfl := Option.some.inj h
    obtain ⟨h1, h2⟩ := argsG_at hq
    refine ⟨by simp [h1], fun i hi => ?_⟩
    cases i with
    | zero => exact hs
    | succ i => exact h2 i (by simpa using hi)
theorem key_put (p : Value) (al : List ByteArray) (n m co : Value) (i : Nat) (hi : i < al.length) (h3 : i < 3) : (#[p, .string (nth (al.take i) 0), .string (nth (al.take i) 1), .string (nth (al.take i) 2), n, m, co] : Array Value).setIfInBounds (1 + i) (.string (nth al i)) = #[p, .string (nth (al.take (i + 1)) 0), .string (nth (al.take (i + 1)) 1), .string (nth (al.take (i + 1)) 2), n, m, co] := by
  match i, al, hi, h3 with
  | 0, a :: _, _, _ => rfl
  | 1, a :: b :: _, _, _ => rfl
  | 2, a :: b :: c :: _, _, _ => rfl
theorem sameF_iff (fs : List S62) (p : ByteArray) (al : List ByteArray) (m co : Int) : (fs.any fun x => sameF x p al m co) = true ↔ inF fs (kv p (nth al 0) (nth al 1) (nth al 2) al.length m co) := by
  unfold inF
  rw [List.any_eq_true]
  constructor
  · rintro ⟨x, hx, h⟩
    simp only [sameF, Bool.and_eq_true, decide_eq_true_eq, beq_iff_eq] at h
    obtain ⟨h0, h1, h2, h3, h4, h5, h6, h7⟩ := h
    refine ⟨x, hx, h0, ?_⟩
    unfold kvF
    rw [ByteArray.ext h1, ByteArray.ext h2, ByteArray.ext h3, ByteArray.ext h4, h5, h6, h7]
  · rintro ⟨x, hx, h0, h⟩
    unfold kvF kv at h
    injection h with h
    simp only [Array.mk.injEq, List.cons.injEq, Value.string.injEq, Value.int.injEq, true_and, and_true] at h
    obtain ⟨h1, h2, h3, h4, h5, h6, h7⟩ := h
    refine ⟨x, hx, ?_⟩
    simp only [sameF, Bool.and_eq_true, decide_eq_true_eq, beq_iff_eq]
    exact ⟨h0, by rw [h1], by rw [h2], by rw [h3], by rw [h4], by omega, h6.symm, h7.symm⟩
theorem truth_op3 {ds : List S73} {ts : List Int} {id : Int} {fs : List S62} {k : Nat} (IH : TruthC ds ts id fs k) : TruthAt ds ts id fs k (fun t => t.f0 = 3) := by
  intro b t A2 c2 A5 c5 bnd AB cB co m r w hop hmd htb hr2 hl2 hr5 hl5 hrB hlB h
  rw [truthG] at h
  simp only [hop, Int.reduceEq, ↓reduceIte] at h
  unfold atomG at h
  by_cases hc : t.f2.length ≤ 3 ∧ okS t.f1 = true ∧ okI m = true ∧ okI co = true
  case neg => rw [if_neg hc] at h; cases h
  rw [if_pos hc] at h
  obtain ⟨al, hal, h⟩ := Option.bind_eq_some_iff.1 h
  by_cases hok : al.all okS = true
  case neg => rw [if_neg hok] at h; cases h
  rw [if_pos hok] at h
  have hiff : r = true ↔ inF fs (kv t.f1 (nth al 0) (nth al 1) (nth al 2) al.length m co) := by rw [← Option.some.inj h]; exact sameF_iff fs t.f1 al m co
  obtain ⟨hlen, hat⟩ := argsG_at hal
  obtain ⟨kl, hkl⟩ := kv_key t.f1 (nth al 0) (nth al 1) (nth al 2) al.length m co (okS_le hc.2.1) (nth_ok hok 0) (nth_ok hok 1) (nth_ok hok 2) (WalkArith.wf_i64 (by have := hc.1; omega)) (okI_wf hc.2.2.1) (okI_wf hc.2.2.2)
  have HC := mk_ hc.1
  have HIFF := mk_ hiff
  have HLEN := mk_ hlen
  have HAT := mk_ hat
  have HKL := mk_ hkl
  clear h hc hal hok hiff hlen hat hkl
  have HOP := mk_ hop
  have HMD := mk_ hmd
  have HTB := mk_ htb
  have HR2 := mk_ hr2
  have HR5 := mk_ hr5
  have HRB := mk_ hrB
  have HL := mk_ (And.intro hl2 (And.intro hl5 hlB))
  show Calls Tryd.prog 40 #[.pointer (some ⟨b, 0, none⟩), .agg #[.int .i64 t.f0, .string t.f1, .slice A2 t.f2.length c2, .int .i64 t.f3, .int .i64 t.f4, .slice A5 t.f5.length c5], .slice AB bnd.length cB, .int .i64 co, .int .i64 m] w _
  rw [hop]
  clear hop hmd htb hr2 hl2 hr5 hl5 hrB hlB
  have hu32 := Tryd.underlying32
  have hu84 := Tryd.underlying84
  have hu98 := Tryd.underlying98
  have hu92 := Tryd.underlying92
  have hu25 := Tryd.underlying25
  have HB0 := mk_ (Below.refl w.heap.size w)
  have T6 : True := trivial
  have T7 : True := trivial
  have T8 : True := trivial
  go_enter Tryd.func40, Tryd.ntmps40
  go_upto_region 7 with (first
    | ((with_reducible refine gate_dst (N := 5) rfl ?_); refine bx_ 5 #[.pointer (some ⟨b, 0, none⟩)] 76 ?_; intro g5 hg w1 hbox hb; have BB5 := mk_ hbox; have HB1 := mk_ (below_step HB0.out hb); clear hb hbox hg HB0)
    | ((with_reducible refine gate_dst (N := 6) rfl ?_); refine bx_ 6 #[.int .i64 3, .string t.f1, .slice A2 t.f2.length c2, .int .i64 t.f3, .int .i64 t.f4, .slice A5 t.f5.length c5] 32 ?_; intro g6 hg w2 hbox hb; replace BB5 := bl_ BB5 hb; have BB6 := mk_ hbox; have HB2 := mk_ (below_step HB1.out hb); clear hb hbox hg HB1)
    | ((with_reducible refine gate_dst (N := 7) rfl ?_); refine bx_ 7 #[.slice AB bnd.length cB] 60 ?_; intro g7 hg w3 hbox hb; replace BB5 := bl_ BB5 hb; replace BB6 := bl_ BB6 hb; have BB7 := mk_ hbox; have HB3 := mk_ (below_step HB2.out hb); clear hb hbox hg HB2)
    | ((with_reducible refine gate_dst (N := 8) rfl ?_); refine bx_ 8 #[.int .i64 co] 3 ?_; intro g8 hg w4 hbox hb; replace BB5 := bl_ BB5 hb; replace BB6 := bl_ BB6 hb; replace BB7 := bl_ BB7 hb; have BB8 := mk_ hbox; have HB4 := mk_ (below_step HB3.out hb); clear hb hbox hg HB3)
    | ((with_reducible refine gate_dst (N := 9) rfl ?_); refine bx_ 9 #[.int .i64 m] 3 ?_; intro g9 hg w5 hbox hb; replace BB5 := bl_ BB5 hb; replace BB6 := bl_ BB6 hb; replace BB7 := bl_ BB7 hb; replace BB8 := bl_ BB8 hb; have BB9 := mk_ hbox; have HB5 := mk_ (below_step HB4.out hb); clear hb hbox hg HB4; have BX := mk_ (bx5_ HMD HTB HR2 HR5 HRB HL HB5 BB5 ⟨HOP.out ▸ BB6.out⟩ BB7 BB8 BB9); clear BB5 BB6 BB7 BB8 BB9 HMD HTB HR2 HR5 HRB; have z50 := hc1_ BX.out.b5; obtain ⟨y0, y1, y2, y3, y4, y5, -, -, -, -, -, -⟩ := hb6_ ⟨BX.out.b6⟩; have z70 := hc1_ BX.out.b7; have z80 := hc1_ BX.out.b8; have z90 := hc1_ BX.out.b9; rw [HOP.out] at y0))
  generalize hW : w5.alloc (.cells #[.string t.f1, .string ⟨#[]⟩, .string ⟨#[]⟩, .string ⟨#[]⟩, .int .i64 t.f2.length, .int .i64 m, .int .i64 co] 98) = w6
  have HB6 : Aside0 (Below w5.heap.size w5 w6) := ⟨by rw [← hW]; exact below_alloc (Below.refl _ _) _⟩
  have BK6 : Aside0 (w6.heap[w5.heap.size]? = some (.cells #[.string t.f1, .string (nth (al.take 0) 0), .string (nth (al.take 0) 1), .string (nth (al.take 0) 2), .int .i64 t.f2.length, .int .i64 m, .int .i64 co] 98 (0, 0))) := ⟨by rw [← hW]; exact heap_alloc_new _ _⟩
  have y2' : w6.cell? ⟨g6, 2, none⟩ = some (.slice A2 t.f2.length c2) := (HB6.out.cell (p := ⟨g6, 2, none⟩) (blk_lt BX.out.b6)).trans y2
  clear hW
  go_wp2
  clear y2' y0 y1 y2 y3 y4 y5 z50 z70 z80 z90
  go_loopw [38] (fun v wr => ∃ (i : Int), v = .int .i64 i ∧ Aside0 (0 ≤ i) ∧ Aside0 (i ≤ (t.f2.length : Int)) ∧ Aside0 (wr.heap[w5.heap.size]? = some (.cells #[.string t.f1, .string (nth (al.take i.toNat) 0), .string (nth (al.take i.toNat) 1), .string (nth (al.take i.toNat) 2), .int .i64 t.f2.length, .int .i64 m, .int .i64 co] 98 (0, 0))) ∧ Aside0 (Below w5.heap.size w5 wr)) (fun v _ => t.f2.length - (intOf v).toNat)
  case atStart => exact ⟨0, rfl, ⟨Int.le_refl _⟩, ⟨by omega⟩, BK6, HB6⟩
  case round =>
    clear BK6 HB6
    obtain ⟨i, rfl, H0, HK, BK, HBW⟩ := hrel
    have BXr := mk_ (BX.out.below HBW.out)
    have z7 : wr.cell? ⟨g7, 0, none⟩ = some (.slice AB bnd.length cB) := (blk_cell BXr.out.b7 0).trans rfl
    have hk1 : ∀ j, (wr.cell? ⟨w5.heap.size, j, none⟩) = (#[.string t.f1, .string (nth (al.take i.toNat) 0), .string (nth (al.take i.toNat) 1), .string (nth (al.take i.toNat) 2), .int .i64 t.f2.length, .int .i64 m, .int .i64 co] : Array Value)[j]? := fun j => (blk_cell BK.out j).trans rfl
    have hfz := fun j => blk_frozen BK.out j
    by_cases hlt : i < (t.f2.length : Int)
    · have h0 := H0.out
      obtain ⟨ad, rfl, hx0, hx1, hx2⟩ := at_T92 BXr.out.r2 i h0 hlt
      have p0 : (0 ≤ i) = True := eq_true h0
      have p1 : (i < (t.f2.length : Int)) = True := eq_true hlt
      have p2 : (i < 3) = True := eq_true (by have := HC.out; omega)
      have ei : ((i.toNat : Nat) : Int) = i := by omega
      have hn := HAT.out i.toNat (by omega)
      rw [ei] at hn
      have hput := key_put (.string t.f1) al (.int .i64 t.f2.length) (.int .i64 m) (.int .i64 co) i.toNat (by have := HLEN.out; omega) (by have := HC.out; omega)
      obtain ⟨x, hx⟩ : ∃ x, x = rd_T92 t.f2 i := ⟨_, rfl⟩
      rw [← hx] at hx0 hx1 hx2 hn
      obtain ⟨s, hs⟩ : ∃ s, s = nth al i.toNat := ⟨_, rfl⟩
      rw [← hs] at hn hput
      clear hx hs ei
      have HN := mk_ hn
      have HPUT := mk_ hput
      have e1 : wrap64 (i + 1) = i + 1 := by have := HC.out; unfold wrap64; omega
      have e2 : (i + 1).toNat = i.toNat + 1 := by omega
      obtain ⟨old, hold⟩ : ∃ old, wr.cell? ⟨w5.heap.size, 1 + i.toNat, none⟩ = some old := by
        rw [hk1 (1 + i.toNat)]
        exact ⟨_, Array.getElem?_eq_getElem (by simp; have := HC.out; omega)⟩
      have hfr := hfz (1 + i.toNat)
      have lt7 : g7 < wr.heap.size := blk_lt BXr.out.b7
      clear hn hput hk1 hfz
      go_wp2_with (go_at_call 55; refine (evaluate_name.calls x.f0 x.f1 x.f2 AB cB bnd s _ (Kd.C_below BXr.out.rB (below_alloc (Below.refl _ _) _)) BXr.out.lB HN.out (tb_on BXr.out.tb (below_alloc (Below.refl _ _) _))).mono ?_; rintro e w7 ⟨rfl, hb⟩; have hb7 : Below wr.heap.size wr w7 := (below_alloc (Below.refl _ _) _).trans (hb.mono (by simp)); have hold7 := (hb7.cell (World.block_lt_of_cell? _ _ hold)).trans hold; have BK7 := mk_ (blk_below BK.out hb7); have hfr7 := blk_frozen BK7.out (1 + i.toNat); have HBW7 := mk_ (HBW.out.trans (hb7.mono HBW.out.size)); clear hb hb7)
      go_roundw
      case rel => exact ⟨i + 1, by rw [e1], ⟨by omega⟩, ⟨by omega⟩, ⟨by rw [e2]; exact blk_put BK7.out (1 + i.toNat) _ HPUT.out⟩, ⟨below_set HBW7.out (Nat.le_refl _)⟩⟩
      case measure => rw [e1]; simp only [intOf]; omega
    · obtain rfl : i = (t.f2.length : Int) := by have := HK.out; omega
      have BKF : Aside0 (wr.heap[w5.heap.size]? = some (.cells #[.string t.f1, .string (nth al 0), .string (nth al 1), .string (nth al 2), .int .i64 al.length, .int .i64 m, .int .i64 co] 98 (0, 0))) := ⟨by
        have h := BK.out
        rw [Int.toNat_natCast, ← HLEN.out, List.take_length] at h
        exact h⟩
      have HBF := mk_ (below_step HB5.out HBW.out)
      obtain ⟨A0, c0, A1, c1, mb, nm, hm, hm0, hm1, hm2, hm3, hm4⟩ := BXr.out.md
      have HM4 := mk_ hm4
      clear hk1 hfz z7 BK hm4
      go_wp2
      refine start_ (n := 7) (S := fun w' => w'.cell? ⟨g5, 0, none⟩ = some (.pointer (some ⟨b, 0, none⟩)) ∧ w'.cell? ⟨b, 3, none⟩ = some (.map (some mb)) ∧ w'.cell? ⟨w5.heap.size, 0, none⟩ = some (.string t.f1) ∧ w'.cell? ⟨w5.heap.size, 1, none⟩ = some (.string (nth al 0)) ∧ w'.cell? ⟨w5.heap.size, 2, none⟩ = some (.string (nth al 1)) ∧ w'.cell? ⟨w5.heap.size, 3, none⟩ = some (.string (nth al 2)) ∧ w'.cell? ⟨w5.heap.size, 4, none⟩ = some (.int .i64 al.length) ∧ w'.cell? ⟨w5.heap.size, 5, none⟩ = some (.int .i64 m) ∧ w'.cell? ⟨w5.heap.size, 6, none⟩ = some (.int .i64 co)) (ds := [5]) (Array.replicate 7 false) (by kernel_rfl) rfl rfl ⟨(blk_cell (blk_drew BXr.out.b5) 0).trans rfl, (blk_cell (blk_drew hm) 3).trans rfl, (blk_cell (blk_drew BKF.out) 0).trans rfl, (blk_cell (blk_drew BKF.out) 1).trans rfl, (blk_cell (blk_drew BKF.out) 2).trans rfl, (blk_cell (blk_drew BKF.out) 3).trans rfl, (blk_cell (blk_drew BKF.out) 4).trans rfl, (blk_cell (blk_drew BKF.out) 5).trans rfl, (blk_cell (blk_drew BKF.out) 6).trans rfl⟩ (fun hHeld => ?_)
      refine tk_ 0 (some 50) hHeld ?_
      refine pu_ 1 (some 51) ?_
      refine pu_ 2 (some 52) ?_
      refine tk_ 3 (some 53) hHeld ?_
      refine tk_ 4 (some 54) hHeld ?_
      refine la_ 5 (some 55) (fun K hK => ?_)
      refine step_look rfl rfl (.tmp 53) (.tmp 54) 82 rfl law98 Tryd.underlying82 (by kernel_rfl) mb nm (inF fs) (by rfl) (setM_below HM4.out (below_drew (Below.refl _ _)) (setM_lt HM4.out)) (kv t.f1 (nth al 0) (nth al 1) (nth al 2) al.length m co) kl (by rfl) HKL.out r HIFF.out ?_
      refine hK.out _ _ ?_
      clear hK K
      refine no_ (N := some 55) ?_
      refine pu_ 6 (some 10) ?_
      refine done_ (by kernel_rfl) ?_
      go_wp2
      go_ret
      exact ⟨rfl, below_drew HBF.out⟩
theorem truth_op4 {ds : List S73} {ts : List Int} {id : Int} {fs : List S62} {k : Nat} (IH : TruthC ds ts id fs k) : TruthAt ds ts id fs k (fun t => t.f0 = 4) := by
  intro b t A2 c2 A5 c5 bnd AB cB co m r w hop hmd htb hr2 hl2 hr5 hl5 hrB hlB h
  rw [truthG] at h
  simp only [hop, Int.reduceEq, ↓reduceIte] at h
  obtain ⟨q, hq, h⟩ := Option.bind_eq_some_iff.1 h
  obtain rfl := Option.some.inj h
  have kidif : ∀ {i : Int} {q : Bool}, (if 0 ≤ i ∧ i < (t.f5.length : Int) then truthG ds ts id fs k (rd_T32 t.f5 i) bnd co m else none) = some q → 0 ≤ i ∧ i < (t.f5.length : Int) ∧ truthG ds ts id fs k (rd_T32 t.f5 i) bnd co m = some q := fun {i q} hq => by
    by_cases hi : 0 ≤ i ∧ i < (t.f5.length : Int)
    · rw [if_pos hi] at hq; exact ⟨hi.1, hi.2, hq⟩
    · rw [if_neg hi] at hq; cases hq
  have HQ := mk_ (kidif hq)
  clear h hq kidif
  have HOP := mk_ hop
  have HMD := mk_ hmd
  have HTB := mk_ htb
  have HR2 := mk_ hr2
  have HR5 := mk_ hr5
  have HRB := mk_ hrB
  have HL := mk_ (And.intro hl2 (And.intro hl5 hlB))
  show Calls Tryd.prog 40 #[.pointer (some ⟨b, 0, none⟩), .agg #[.int .i64 t.f0, .string t.f1, .slice A2 t.f2.length c2, .int .i64 t.f3, .int .i64 t.f4, .slice A5 t.f5.length c5], .slice AB bnd.length cB, .int .i64 co, .int .i64 m] w _
  rw [hop]
  clear hop hmd htb hr2 hl2 hr5 hl5 hrB hlB
  have hu32 := Tryd.underlying32
  have hu84 := Tryd.underlying84
  have hu98 := Tryd.underlying98
  have hu92 := Tryd.underlying92
  have hu25 := Tryd.underlying25
  have HB0 := mk_ (Below.refl w.heap.size w)
  have T6 : True := trivial
  have T7 : True := trivial
  have T8 : True := trivial
  have eg54 : ∀ (args : Array Value) (w : World), (callFunc 54 args).run Tryd.prog w = .ok (.enter 54 args) w := enters_of Tryd.func54 (by kernel_rfl) rfl
  go_enter Tryd.func40, Tryd.ntmps40
  go_wp2_with (first
    | ((with_reducible refine gate_dst (N := 5) rfl ?_); refine bx_ 5 #[.pointer (some ⟨b, 0, none⟩)] 76 ?_; intro g5 hg w1 hbox hb; have BB5 := mk_ hbox; have HB1 := mk_ (below_step HB0.out hb); clear hb hbox hg HB0)
    | ((with_reducible refine gate_dst (N := 6) rfl ?_); refine bx_ 6 #[.int .i64 4, .string t.f1, .slice A2 t.f2.length c2, .int .i64 t.f3, .int .i64 t.f4, .slice A5 t.f5.length c5] 32 ?_; intro g6 hg w2 hbox hb; replace BB5 := bl_ BB5 hb; have BB6 := mk_ hbox; have HB2 := mk_ (below_step HB1.out hb); clear hb hbox hg HB1)
    | ((with_reducible refine gate_dst (N := 7) rfl ?_); refine bx_ 7 #[.slice AB bnd.length cB] 60 ?_; intro g7 hg w3 hbox hb; replace BB5 := bl_ BB5 hb; replace BB6 := bl_ BB6 hb; have BB7 := mk_ hbox; have HB3 := mk_ (below_step HB2.out hb); clear hb hbox hg HB2)
    | ((with_reducible refine gate_dst (N := 8) rfl ?_); refine bx_ 8 #[.int .i64 co] 3 ?_; intro g8 hg w4 hbox hb; replace BB5 := bl_ BB5 hb; replace BB6 := bl_ BB6 hb; replace BB7 := bl_ BB7 hb; have BB8 := mk_ hbox; have HB4 := mk_ (below_step HB3.out hb); clear hb hbox hg HB3)
    | ((with_reducible refine gate_dst (N := 9) rfl ?_); refine bx_ 9 #[.int .i64 m] 3 ?_; intro g9 hg w5 hbox hb; replace BB5 := bl_ BB5 hb; replace BB6 := bl_ BB6 hb; replace BB7 := bl_ BB7 hb; replace BB8 := bl_ BB8 hb; have BB9 := mk_ hbox; have HB5 := mk_ (below_step HB4.out hb); clear hb hbox hg HB4; have BX := mk_ (bx5_ HMD HTB HR2 HR5 HRB HL HB5 BB5 ⟨HOP.out ▸ BB6.out⟩ BB7 BB8 BB9); clear BB5 BB6 BB7 BB8 BB9 HMD HTB HR2 HR5 HRB; have z50 := hc1_ BX.out.b5; obtain ⟨y0, y1, y2, y3, y4, y5, -, -, -, -, -, -⟩ := hb6_ ⟨BX.out.b6⟩; have z70 := hc1_ BX.out.b7; have z80 := hc1_ BX.out.b8; have z90 := hc1_ BX.out.b9; rw [HOP.out] at y0)
    | (clear T6; go_at_fn 54; refine (kid_any IH _ BX.out 0 q HQ.out.1 HQ.out.2.1 HQ.out.2.2).mono ?_; rintro e w6 ⟨rfl, hb⟩; have HB6 := mk_ (below_step HB5.out hb); have BX6 := mk_ (BX.out.below hb); clear hb HB5))
  go_ret
  exact ⟨rfl, HB6.out⟩
theorem truth_op5 {ds : List S73} {ts : List Int} {id : Int} {fs : List S62} {k : Nat} (IH : TruthC ds ts id fs k) : TruthAt ds ts id fs k (fun t => t.f0 = 5) := by
  intro b t A2 c2 A5 c5 bnd AB cB co m r w hop hmd htb hr2 hl2 hr5 hl5 hrB hlB h
  rw [truthG] at h
  simp only [hop, Int.reduceEq, ↓reduceIte] at h
  have kidif : ∀ {i : Int} {q : Bool}, (if 0 ≤ i ∧ i < (t.f5.length : Int) then truthG ds ts id fs k (rd_T32 t.f5 i) bnd co m else none) = some q → 0 ≤ i ∧ i < (t.f5.length : Int) ∧ truthG ds ts id fs k (rd_T32 t.f5 i) bnd co m = some q := fun {i q} hq => by
    by_cases hi : 0 ≤ i ∧ i < (t.f5.length : Int)
    · rw [if_pos hi] at hq; exact ⟨hi.1, hi.2, hq⟩
    · rw [if_neg hi] at hq; cases hq
  have HR5L := mk_ hr5.2.1
  have HK := mk_ h
  clear h
  have HOP := mk_ hop
  have HMD := mk_ hmd
  have HTB := mk_ htb
  have HR2 := mk_ hr2
  have HR5 := mk_ hr5
  have HRB := mk_ hrB
  have HL := mk_ (And.intro hl2 (And.intro hl5 hlB))
  show Calls Tryd.prog 40 #[.pointer (some ⟨b, 0, none⟩), .agg #[.int .i64 t.f0, .string t.f1, .slice A2 t.f2.length c2, .int .i64 t.f3, .int .i64 t.f4, .slice A5 t.f5.length c5], .slice AB bnd.length cB, .int .i64 co, .int .i64 m] w _
  rw [hop]
  clear hop hmd htb hr2 hl2 hr5 hl5 hrB hlB
  have hu32 := Tryd.underlying32
  have hu84 := Tryd.underlying84
  have hu98 := Tryd.underlying98
  have hu92 := Tryd.underlying92
  have hu25 := Tryd.underlying25
  have HB0 := mk_ (Below.refl w.heap.size w)
  have T6 : True := trivial
  have T7 : True := trivial
  have T8 : True := trivial
  have eg54 : ∀ (args : Array Value) (w : World), (callFunc 54 args).run Tryd.prog w = .ok (.enter 54 args) w := enters_of Tryd.func54 (by kernel_rfl) rfl
  go_enter Tryd.func40, Tryd.ntmps40
  go_wp2_with (first
    | ((with_reducible refine gate_dst (N := 5) rfl ?_); refine bx_ 5 #[.pointer (some ⟨b, 0, none⟩)] 76 ?_; intro g5 hg w1 hbox hb; have BB5 := mk_ hbox; have HB1 := mk_ (below_step HB0.out hb); clear hb hbox hg HB0)
    | ((with_reducible refine gate_dst (N := 6) rfl ?_); refine bx_ 6 #[.int .i64 5, .string t.f1, .slice A2 t.f2.length c2, .int .i64 t.f3, .int .i64 t.f4, .slice A5 t.f5.length c5] 32 ?_; intro g6 hg w2 hbox hb; replace BB5 := bl_ BB5 hb; have BB6 := mk_ hbox; have HB2 := mk_ (below_step HB1.out hb); clear hb hbox hg HB1)
    | ((with_reducible refine gate_dst (N := 7) rfl ?_); refine bx_ 7 #[.slice AB bnd.length cB] 60 ?_; intro g7 hg w3 hbox hb; replace BB5 := bl_ BB5 hb; replace BB6 := bl_ BB6 hb; have BB7 := mk_ hbox; have HB3 := mk_ (below_step HB2.out hb); clear hb hbox hg HB2)
    | ((with_reducible refine gate_dst (N := 8) rfl ?_); refine bx_ 8 #[.int .i64 co] 3 ?_; intro g8 hg w4 hbox hb; replace BB5 := bl_ BB5 hb; replace BB6 := bl_ BB6 hb; replace BB7 := bl_ BB7 hb; have BB8 := mk_ hbox; have HB4 := mk_ (below_step HB3.out hb); clear hb hbox hg HB3)
    | ((with_reducible refine gate_dst (N := 9) rfl ?_); refine bx_ 9 #[.int .i64 m] 3 ?_; intro g9 hg w5 hbox hb; replace BB5 := bl_ BB5 hb; replace BB6 := bl_ BB6 hb; replace BB7 := bl_ BB7 hb; replace BB8 := bl_ BB8 hb; have BB9 := mk_ hbox; have HB5 := mk_ (below_step HB4.out hb); clear hb hbox hg HB4; have BX := mk_ (bx5_ HMD HTB HR2 HR5 HRB HL HB5 BB5 ⟨HOP.out ▸ BB6.out⟩ BB7 BB8 BB9); clear BB5 BB6 BB7 BB8 BB9 HMD HTB HR2 HR5 HRB; have z50 := hc1_ BX.out.b5; obtain ⟨y0, y1, y2, y3, y4, y5, -, -, -, -, -, -⟩ := hb6_ ⟨BX.out.b6⟩; have z70 := hc1_ BX.out.b7; have z80 := hc1_ BX.out.b8; have z90 := hc1_ BX.out.b9; rw [HOP.out] at y0)
    | (clear T6; go_at_call 42; refine (some_any 54 #[.pointer (some ⟨g5, 0, none⟩), .pointer (some ⟨g6, 0, none⟩), .pointer (some ⟨g7, 0, none⟩), .pointer (some ⟨g8, 0, none⟩), .pointer (some ⟨g9, 0, none⟩)] true (fun i => if 0 ≤ i ∧ i < (t.f5.length : Int) then truthG ds ts id fs k (rd_T32 t.f5 i) bnd co m else none) 0 (t.f5.length : Int) r _ eg54 (fun W i q hW h0 h1 hq => kid_any IH W (BX.out.below hW) i q h0 h1 (kidif hq).2.2) (by decide) (by have := HR5L.out; omega) (by rw [Int.sub_zero, Int.toNat_natCast]; exact HK.out)).mono ?_; rintro e w6 ⟨rfl, hb⟩; have HB6 := mk_ (below_step HB5.out hb); clear hb HB5))
  go_ret
  exact ⟨rfl, HB6.out⟩
theorem truth_op6 {ds : List S73} {ts : List Int} {id : Int} {fs : List S62} {k : Nat} (IH : TruthC ds ts id fs k) : TruthAt ds ts id fs k (fun t => t.f0 = 6) := by
  intro b t A2 c2 A5 c5 bnd AB cB co m r w hop hmd htb hr2 hl2 hr5 hl5 hrB hlB h
  rw [truthG] at h
  simp only [hop, Int.reduceEq, ↓reduceIte] at h
  have kidif : ∀ {i : Int} {q : Bool}, (if 0 ≤ i ∧ i < (t.f5.length : Int) then truthG ds ts id fs k (rd_T32 t.f5 i) bnd co m else none) = some q → 0 ≤ i ∧ i < (t.f5.length : Int) ∧ truthG ds ts id fs k (rd_T32 t.f5 i) bnd co m = some q := fun {i q} hq => by
    by_cases hi : 0 ≤ i ∧ i < (t.f5.length : Int)
    · rw [if_pos hi] at hq; exact ⟨hi.1, hi.2, hq⟩
    · rw [if_neg hi] at hq; cases hq
  have HR5L := mk_ hr5.2.1
  have HK := mk_ h
  clear h
  have HOP := mk_ hop
  have HMD := mk_ hmd
  have HTB := mk_ htb
  have HR2 := mk_ hr2
  have HR5 := mk_ hr5
  have HRB := mk_ hrB
  have HL := mk_ (And.intro hl2 (And.intro hl5 hlB))
  show Calls Tryd.prog 40 #[.pointer (some ⟨b, 0, none⟩), .agg #[.int .i64 t.f0, .string t.f1, .slice A2 t.f2.length c2, .int .i64 t.f3, .int .i64 t.f4, .slice A5 t.f5.length c5], .slice AB bnd.length cB, .int .i64 co, .int .i64 m] w _
  rw [hop]
  clear hop hmd htb hr2 hl2 hr5 hl5 hrB hlB
  have hu32 := Tryd.underlying32
  have hu84 := Tryd.underlying84
  have hu98 := Tryd.underlying98
  have hu92 := Tryd.underlying92
  have hu25 := Tryd.underlying25
  have HB0 := mk_ (Below.refl w.heap.size w)
  have T6 : True := trivial
  have T7 : True := trivial
  have T8 : True := trivial
  have eg54 : ∀ (args : Array Value) (w : World), (callFunc 54 args).run Tryd.prog w = .ok (.enter 54 args) w := enters_of Tryd.func54 (by kernel_rfl) rfl
  go_enter Tryd.func40, Tryd.ntmps40
  go_wp2_with (first
    | ((with_reducible refine gate_dst (N := 5) rfl ?_); refine bx_ 5 #[.pointer (some ⟨b, 0, none⟩)] 76 ?_; intro g5 hg w1 hbox hb; have BB5 := mk_ hbox; have HB1 := mk_ (below_step HB0.out hb); clear hb hbox hg HB0)
    | ((with_reducible refine gate_dst (N := 6) rfl ?_); refine bx_ 6 #[.int .i64 6, .string t.f1, .slice A2 t.f2.length c2, .int .i64 t.f3, .int .i64 t.f4, .slice A5 t.f5.length c5] 32 ?_; intro g6 hg w2 hbox hb; replace BB5 := bl_ BB5 hb; have BB6 := mk_ hbox; have HB2 := mk_ (below_step HB1.out hb); clear hb hbox hg HB1)
    | ((with_reducible refine gate_dst (N := 7) rfl ?_); refine bx_ 7 #[.slice AB bnd.length cB] 60 ?_; intro g7 hg w3 hbox hb; replace BB5 := bl_ BB5 hb; replace BB6 := bl_ BB6 hb; have BB7 := mk_ hbox; have HB3 := mk_ (below_step HB2.out hb); clear hb hbox hg HB2)
    | ((with_reducible refine gate_dst (N := 8) rfl ?_); refine bx_ 8 #[.int .i64 co] 3 ?_; intro g8 hg w4 hbox hb; replace BB5 := bl_ BB5 hb; replace BB6 := bl_ BB6 hb; replace BB7 := bl_ BB7 hb; have BB8 := mk_ hbox; have HB4 := mk_ (below_step HB3.out hb); clear hb hbox hg HB3)
    | ((with_reducible refine gate_dst (N := 9) rfl ?_); refine bx_ 9 #[.int .i64 m] 3 ?_; intro g9 hg w5 hbox hb; replace BB5 := bl_ BB5 hb; replace BB6 := bl_ BB6 hb; replace BB7 := bl_ BB7 hb; replace BB8 := bl_ BB8 hb; have BB9 := mk_ hbox; have HB5 := mk_ (below_step HB4.out hb); clear hb hbox hg HB4; have BX := mk_ (bx5_ HMD HTB HR2 HR5 HRB HL HB5 BB5 ⟨HOP.out ▸ BB6.out⟩ BB7 BB8 BB9); clear BB5 BB6 BB7 BB8 BB9 HMD HTB HR2 HR5 HRB; have z50 := hc1_ BX.out.b5; obtain ⟨y0, y1, y2, y3, y4, y5, -, -, -, -, -, -⟩ := hb6_ ⟨BX.out.b6⟩; have z70 := hc1_ BX.out.b7; have z80 := hc1_ BX.out.b8; have z90 := hc1_ BX.out.b9; rw [HOP.out] at y0)
    | (clear T6; go_at_call 42; refine (some_any 54 #[.pointer (some ⟨g5, 0, none⟩), .pointer (some ⟨g6, 0, none⟩), .pointer (some ⟨g7, 0, none⟩), .pointer (some ⟨g8, 0, none⟩), .pointer (some ⟨g9, 0, none⟩)] false (fun i => if 0 ≤ i ∧ i < (t.f5.length : Int) then truthG ds ts id fs k (rd_T32 t.f5 i) bnd co m else none) 0 (t.f5.length : Int) r _ eg54 (fun W i q hW h0 h1 hq => kid_any IH W (BX.out.below hW) i q h0 h1 (kidif hq).2.2) (by decide) (by have := HR5L.out; omega) (by rw [Int.sub_zero, Int.toNat_natCast]; exact HK.out)).mono ?_; rintro e w6 ⟨rfl, hb⟩; have HB6 := mk_ (below_step HB5.out hb); clear hb HB5))
  go_ret
  exact ⟨rfl, HB6.out⟩
theorem truth_op7 {ds : List S73} {ts : List Int} {id : Int} {fs : List S62} {k : Nat} (IH : TruthC ds ts id fs k) : TruthAt ds ts id fs k (fun t => t.f0 = 7) := by
  intro b t A2 c2 A5 c5 bnd AB cB co m r w hop hmd htb hr2 hl2 hr5 hl5 hrB hlB h
  rw [truthG] at h
  simp only [hop, Int.reduceEq, ↓reduceIte] at h
  obtain ⟨q, hq, h⟩ := Option.bind_eq_some_iff.1 h
  have kidif : ∀ {i : Int} {q : Bool}, (if 0 ≤ i ∧ i < (t.f5.length : Int) then truthG ds ts id fs k (rd_T32 t.f5 i) bnd co m else none) = some q → 0 ≤ i ∧ i < (t.f5.length : Int) ∧ truthG ds ts id fs k (rd_T32 t.f5 i) bnd co m = some q := fun {i q} hq => by
    by_cases hi : 0 ≤ i ∧ i < (t.f5.length : Int)
    · rw [if_pos hi] at hq; exact ⟨hi.1, hi.2, hq⟩
    · rw [if_neg hi] at hq; cases hq
  have HQ := mk_ (kidif hq)
  clear hq
  have HOP := mk_ hop
  have HMD := mk_ hmd
  have HTB := mk_ htb
  have HR2 := mk_ hr2
  have HR5 := mk_ hr5
  have HRB := mk_ hrB
  have HL := mk_ (And.intro hl2 (And.intro hl5 hlB))
  show Calls Tryd.prog 40 #[.pointer (some ⟨b, 0, none⟩), .agg #[.int .i64 t.f0, .string t.f1, .slice A2 t.f2.length c2, .int .i64 t.f3, .int .i64 t.f4, .slice A5 t.f5.length c5], .slice AB bnd.length cB, .int .i64 co, .int .i64 m] w _
  rw [hop]
  clear hop hmd htb hr2 hl2 hr5 hl5 hrB hlB
  have hu32 := Tryd.underlying32
  have hu84 := Tryd.underlying84
  have hu98 := Tryd.underlying98
  have hu92 := Tryd.underlying92
  have hu25 := Tryd.underlying25
  have HB0 := mk_ (Below.refl w.heap.size w)
  have T6 : True := trivial
  have T7 : True := trivial
  have T8 : True := trivial
  have eg54 : ∀ (args : Array Value) (w : World), (callFunc 54 args).run Tryd.prog w = .ok (.enter 54 args) w := enters_of Tryd.func54 (by kernel_rfl) rfl
  cases q with
  | false =>
    rw [if_neg (by decide)] at h
    obtain rfl := Option.some.inj h
    clear h kidif
    go_enter Tryd.func40, Tryd.ntmps40
    go_wp2_with (first
      | ((with_reducible refine gate_dst (N := 5) rfl ?_); refine bx_ 5 #[.pointer (some ⟨b, 0, none⟩)] 76 ?_; intro g5 hg w1 hbox hb; have BB5 := mk_ hbox; have HB1 := mk_ (below_step HB0.out hb); clear hb hbox hg HB0)
      | ((with_reducible refine gate_dst (N := 6) rfl ?_); refine bx_ 6 #[.int .i64 7, .string t.f1, .slice A2 t.f2.length c2, .int .i64 t.f3, .int .i64 t.f4, .slice A5 t.f5.length c5] 32 ?_; intro g6 hg w2 hbox hb; replace BB5 := bl_ BB5 hb; have BB6 := mk_ hbox; have HB2 := mk_ (below_step HB1.out hb); clear hb hbox hg HB1)
      | ((with_reducible refine gate_dst (N := 7) rfl ?_); refine bx_ 7 #[.slice AB bnd.length cB] 60 ?_; intro g7 hg w3 hbox hb; replace BB5 := bl_ BB5 hb; replace BB6 := bl_ BB6 hb; have BB7 := mk_ hbox; have HB3 := mk_ (below_step HB2.out hb); clear hb hbox hg HB2)
      | ((with_reducible refine gate_dst (N := 8) rfl ?_); refine bx_ 8 #[.int .i64 co] 3 ?_; intro g8 hg w4 hbox hb; replace BB5 := bl_ BB5 hb; replace BB6 := bl_ BB6 hb; replace BB7 := bl_ BB7 hb; have BB8 := mk_ hbox; have HB4 := mk_ (below_step HB3.out hb); clear hb hbox hg HB3)
      | ((with_reducible refine gate_dst (N := 9) rfl ?_); refine bx_ 9 #[.int .i64 m] 3 ?_; intro g9 hg w5 hbox hb; replace BB5 := bl_ BB5 hb; replace BB6 := bl_ BB6 hb; replace BB7 := bl_ BB7 hb; replace BB8 := bl_ BB8 hb; have BB9 := mk_ hbox; have HB5 := mk_ (below_step HB4.out hb); clear hb hbox hg HB4; have BX := mk_ (bx5_ HMD HTB HR2 HR5 HRB HL HB5 BB5 ⟨HOP.out ▸ BB6.out⟩ BB7 BB8 BB9); clear BB5 BB6 BB7 BB8 BB9 HMD HTB HR2 HR5 HRB; have z50 := hc1_ BX.out.b5; obtain ⟨y0, y1, y2, y3, y4, y5, -, -, -, -, -, -⟩ := hb6_ ⟨BX.out.b6⟩; have z70 := hc1_ BX.out.b7; have z80 := hc1_ BX.out.b8; have z90 := hc1_ BX.out.b9; rw [HOP.out] at y0)
      | (clear T6; go_at_fn 54; refine (kid_any IH _ BX.out 0 false HQ.out.1 HQ.out.2.1 HQ.out.2.2).mono ?_; rintro e w6 ⟨rfl, hb⟩; have HB6 := mk_ (below_step HB5.out hb); have BX6 := mk_ (BX.out.below hb); clear hb HB5))
    go_ret
    exact ⟨rfl, HB6.out⟩
  | true =>
    rw [if_pos rfl] at h
    have HQ1 := mk_ (kidif h)
    clear h kidif
    go_enter Tryd.func40, Tryd.ntmps40
    go_wp2_with (first
      | ((with_reducible refine gate_dst (N := 5) rfl ?_); refine bx_ 5 #[.pointer (some ⟨b, 0, none⟩)] 76 ?_; intro g5 hg w1 hbox hb; have BB5 := mk_ hbox; have HB1 := mk_ (below_step HB0.out hb); clear hb hbox hg HB0)
      | ((with_reducible refine gate_dst (N := 6) rfl ?_); refine bx_ 6 #[.int .i64 7, .string t.f1, .slice A2 t.f2.length c2, .int .i64 t.f3, .int .i64 t.f4, .slice A5 t.f5.length c5] 32 ?_; intro g6 hg w2 hbox hb; replace BB5 := bl_ BB5 hb; have BB6 := mk_ hbox; have HB2 := mk_ (below_step HB1.out hb); clear hb hbox hg HB1)
      | ((with_reducible refine gate_dst (N := 7) rfl ?_); refine bx_ 7 #[.slice AB bnd.length cB] 60 ?_; intro g7 hg w3 hbox hb; replace BB5 := bl_ BB5 hb; replace BB6 := bl_ BB6 hb; have BB7 := mk_ hbox; have HB3 := mk_ (below_step HB2.out hb); clear hb hbox hg HB2)
      | ((with_reducible refine gate_dst (N := 8) rfl ?_); refine bx_ 8 #[.int .i64 co] 3 ?_; intro g8 hg w4 hbox hb; replace BB5 := bl_ BB5 hb; replace BB6 := bl_ BB6 hb; replace BB7 := bl_ BB7 hb; have BB8 := mk_ hbox; have HB4 := mk_ (below_step HB3.out hb); clear hb hbox hg HB3)
      | ((with_reducible refine gate_dst (N := 9) rfl ?_); refine bx_ 9 #[.int .i64 m] 3 ?_; intro g9 hg w5 hbox hb; replace BB5 := bl_ BB5 hb; replace BB6 := bl_ BB6 hb; replace BB7 := bl_ BB7 hb; replace BB8 := bl_ BB8 hb; have BB9 := mk_ hbox; have HB5 := mk_ (below_step HB4.out hb); clear hb hbox hg HB4; have BX := mk_ (bx5_ HMD HTB HR2 HR5 HRB HL HB5 BB5 ⟨HOP.out ▸ BB6.out⟩ BB7 BB8 BB9); clear BB5 BB6 BB7 BB8 BB9 HMD HTB HR2 HR5 HRB; have z50 := hc1_ BX.out.b5; obtain ⟨y0, y1, y2, y3, y4, y5, -, -, -, -, -, -⟩ := hb6_ ⟨BX.out.b6⟩; have z70 := hc1_ BX.out.b7; have z80 := hc1_ BX.out.b8; have z90 := hc1_ BX.out.b9; rw [HOP.out] at y0)
      | (clear T6; go_at_fn 54; refine (kid_any IH _ BX.out 0 true HQ.out.1 HQ.out.2.1 HQ.out.2.2).mono ?_; rintro e w6 ⟨rfl, hb⟩; have HB6 := mk_ (below_step HB5.out hb); have BX6 := mk_ (BX.out.below hb); clear hb HB5)
      | (clear T7; go_at_fn 54; refine (kid_any IH _ BX6.out 1 r HQ1.out.1 HQ1.out.2.1 HQ1.out.2.2).mono ?_; rintro e w7 ⟨rfl, hb⟩; have HB7 := mk_ (below_step HB6.out hb); have BX7 := mk_ (BX6.out.below hb); clear hb HB6))
    go_ret
    exact ⟨rfl, HB7.out⟩
theorem truth_op8 {ds : List S73} {ts : List Int} {id : Int} {fs : List S62} {k : Nat} (IH : TruthC ds ts id fs k) : TruthAt ds ts id fs k (fun t => t.f0 = 8) := by
  intro b t A2 c2 A5 c5 bnd AB cB co m r w hop hmd htb hr2 hl2 hr5 hl5 hrB hlB h
  rw [truthG] at h
  simp only [hop, Int.reduceEq, ↓reduceIte] at h
  obtain ⟨⟨ns, ok⟩, hns, h⟩ := Option.bind_eq_some_iff.1 h
  have h : (if 0 < t.f5.length ∧ ns.length < 4398046511104 ∧ bnd.length < 4398046511104 then someL true (fun i => truthG ds ts id fs k (rd_T32 t.f5 0) (bnd ++ [rdOf ByteArray.empty ns i]) co m) ns.length 0 else none) = some r := h
  by_cases hc : 0 < t.f5.length ∧ ns.length < 4398046511104 ∧ bnd.length < 4398046511104
  case neg => rw [if_neg hc] at h; cases h
  rw [if_pos hc] at h
  have HC := mk_ hc
  have HNS := mk_ hns
  have HK := mk_ h
  clear h hns hc
  have HOP := mk_ hop
  have HMD := mk_ hmd
  have HTB := mk_ htb
  have HR2 := mk_ hr2
  have HR5 := mk_ hr5
  have HRB := mk_ hrB
  have HL := mk_ (And.intro hl2 (And.intro hl5 hlB))
  show Calls Tryd.prog 40 #[.pointer (some ⟨b, 0, none⟩), .agg #[.int .i64 t.f0, .string t.f1, .slice A2 t.f2.length c2, .int .i64 t.f3, .int .i64 t.f4, .slice A5 t.f5.length c5], .slice AB bnd.length cB, .int .i64 co, .int .i64 m] w _
  rw [hop]
  clear hop hmd htb hr2 hl2 hr5 hl5 hrB hlB
  have hu32 := Tryd.underlying32
  have hu84 := Tryd.underlying84
  have hu98 := Tryd.underlying98
  have hu92 := Tryd.underlying92
  have hu25 := Tryd.underlying25
  have HB0 := mk_ (Below.refl w.heap.size w)
  have T6 : True := trivial
  have T7 : True := trivial
  have T8 : True := trivial
  have eg56 : ∀ (args : Array Value) (w : World), (callFunc 56 args).run Tryd.prog w = .ok (.enter 56 args) w := enters_of Tryd.func56 (by kernel_rfl) rfl
  go_enter Tryd.func40, Tryd.ntmps40
  go_upto_region 22 with (first
    | ((with_reducible refine gate_dst (N := 5) rfl ?_); refine bx_ 5 #[.pointer (some ⟨b, 0, none⟩)] 76 ?_; intro g5 hg w1 hbox hb; have BB5 := mk_ hbox; have HB1 := mk_ (below_step HB0.out hb); clear hb hbox hg HB0)
    | ((with_reducible refine gate_dst (N := 6) rfl ?_); refine bx_ 6 #[.int .i64 8, .string t.f1, .slice A2 t.f2.length c2, .int .i64 t.f3, .int .i64 t.f4, .slice A5 t.f5.length c5] 32 ?_; intro g6 hg w2 hbox hb; replace BB5 := bl_ BB5 hb; have BB6 := mk_ hbox; have HB2 := mk_ (below_step HB1.out hb); clear hb hbox hg HB1)
    | ((with_reducible refine gate_dst (N := 7) rfl ?_); refine bx_ 7 #[.slice AB bnd.length cB] 60 ?_; intro g7 hg w3 hbox hb; replace BB5 := bl_ BB5 hb; replace BB6 := bl_ BB6 hb; have BB7 := mk_ hbox; have HB3 := mk_ (below_step HB2.out hb); clear hb hbox hg HB2)
    | ((with_reducible refine gate_dst (N := 8) rfl ?_); refine bx_ 8 #[.int .i64 co] 3 ?_; intro g8 hg w4 hbox hb; replace BB5 := bl_ BB5 hb; replace BB6 := bl_ BB6 hb; replace BB7 := bl_ BB7 hb; have BB8 := mk_ hbox; have HB4 := mk_ (below_step HB3.out hb); clear hb hbox hg HB3)
    | ((with_reducible refine gate_dst (N := 9) rfl ?_); refine bx_ 9 #[.int .i64 m] 3 ?_; intro g9 hg w5 hbox hb; replace BB5 := bl_ BB5 hb; replace BB6 := bl_ BB6 hb; replace BB7 := bl_ BB7 hb; replace BB8 := bl_ BB8 hb; have BB9 := mk_ hbox; have HB5 := mk_ (below_step HB4.out hb); clear hb hbox hg HB4; have BX := mk_ (bx5_ HMD HTB HR2 HR5 HRB HL HB5 BB5 ⟨HOP.out ▸ BB6.out⟩ BB7 BB8 BB9); clear BB5 BB6 BB7 BB8 BB9 HMD HTB HR2 HR5 HRB; have z50 := hc1_ BX.out.b5; obtain ⟨y0, y1, y2, y3, y4, y5, -, -, -, -, -, -⟩ := hb6_ ⟨BX.out.b6⟩; have z70 := hc1_ BX.out.b7; have z80 := hc1_ BX.out.b8; have z90 := hc1_ BX.out.b9; rw [HOP.out] at y0))
  obtain ⟨A0, c0, A1, c1, mb, nm, hm, hm0, hm1, hm2, hm3, hm4⟩ := BX.out.md
  have m0 : w5.cell? ⟨b, 0, none⟩ = some (.slice A0 ds.length c0) := (blk_cell hm 0).trans rfl
  have m1 : w5.cell? ⟨b, 1, none⟩ = some (.slice A1 ts.length c1) := (blk_cell hm 1).trans rfl
  have m2 : w5.cell? ⟨b, 2, none⟩ = some (.int .i64 id) := (blk_cell hm 2).trans rfl
  have m3 : w5.cell? ⟨b, 3, none⟩ = some (.map (some mb)) := (blk_cell hm 3).trans rfl
  have hcall : ∀ W, Below w5.heap.size w5 W → Calls Tryd.prog 47 #[.agg #[.slice A0 ds.length c0, .slice A1 ts.length c1, .int .i64 id], .string t.f1] W fun e w' => ∃ AN cN, e = .returned (.tuple #[.slice AN ns.length cN, .bool ok]) ∧ ns.length ≤ cN ∧ Kd.F Kd.string w' (fun k_ => k_ < w5.heap.size ∨ W.heap.size ≤ k_) AN ns.length ns ∧ Below W.heap.size W w' := by
    intro W hW
    refine (evaluate_individuals.calls k (fun k_ => k_ < w5.heap.size) A0 c0 ds A1 c1 ts id t.f1 ns ok W (Kd.V_mk hm0 (Kd.F_below (Kd.C_F k73_heap hm2) hW)) (Kd.C_below hm3 hW) hm1 HNS.out).mono ?_
    rintro e w' ⟨v, rfl, hv, hb⟩
    obtain ⟨AN, cN, rfl, hl, hf⟩ := hv
    exact ⟨AN, cN, rfl, hl, hf, hb⟩
  clear hm hm2 hm3 hm4
  go_cut [15] (fun v15 wx => ∃ g AN cN, v15 = .pointer (some ⟨g, 0, none⟩) ∧ Aside0 (wx.heap[g]? = some (.cells #[.slice AN ns.length cN] 60 (0, 0))) ∧ Aside0 (Kd.C Kd.string wx AN ns.length ns) ∧ Aside0 (Below w5.heap.size w5 wx))
  case first =>
    have nn0 := World.new_ne w5 _ z50
    have nn1 := World.new_ne w5 _ m0
    have nn2 := World.new_ne w5 _ m1
    have nn3 := World.new_ne w5 _ m2
    have nn4 := World.new_ne w5 _ m3
    have nn5 := World.new_ne w5 _ y1
    go_region_held3 (fun w' => w'.cell? ⟨g5, 0, none⟩ = some (.pointer (some ⟨b, 0, none⟩)) ∧ w'.cell? ⟨b, 0, none⟩ = some (.slice A0 ds.length c0) ∧ w'.cell? ⟨b, 1, none⟩ = some (.slice A1 ts.length c1) ∧ w'.cell? ⟨b, 2, none⟩ = some (.int .i64 id) ∧ w'.cell? ⟨b, 3, none⟩ = some (.map (some mb)) ∧ w'.cell? ⟨g6, 1, none⟩ = some (.string t.f1))
      (go_keep)
      (first
      | (go_at_call 47
         refine (hcall _ (by repeat (first | (with_reducible first | exact Below.refl _ _ | apply below_alloc | apply pw_below_drewN | apply below_drew)))).mono ?_
         rintro e w6 ⟨AN, cN, rfl, hcN, hF, hb⟩
         have _q := (show Below (w5.drew).heap.size (w5.drew) w6 from hb)
         have hbw : Below w5.heap.size w5 w6 := (below_drew (Below.refl _ _)).trans hb
         have q0 := (hbw.cell (World.block_lt_of_cell? _ _ z50)).trans z50; have q1 := (hbw.cell (World.block_lt_of_cell? _ _ m0)).trans m0; have q2 := (hbw.cell (World.block_lt_of_cell? _ _ m1)).trans m1; have q3 := (hbw.cell (World.block_lt_of_cell? _ _ m2)).trans m2; have q4 := (hbw.cell (World.block_lt_of_cell? _ _ m3)).trans m3; have q5 := (hbw.cell (World.block_lt_of_cell? _ _ y1)).trans y1
         have HBW := mk_ hbw
         have HF := mk_ hF
         clear hb hbw hF hcN _q)
      | (go_at_call 47
         refine (hcall _ (by repeat (first | (with_reducible first | exact Below.refl _ _ | apply below_alloc | apply pw_below_drewN | apply below_drew)))).mono ?_
         rintro e w6 ⟨AN, cN, rfl, hcN, hF, hb⟩
         have yb : w6.heap[w5.heap.size]? = some (.cells #[.slice none 0 0] 60 (0, 0)) := blk_below (blk_drew (heap_alloc_new _ _)) hb
         have yc := (blk_cell yb 0).trans rfl
         have yf := blk_frozen yb 0
         have hbw : Below w5.heap.size w5 w6 := (below_drew (below_alloc (Below.refl _ _) _)).trans (hb.mono (by simp))
         have q0 := (hbw.cell (World.block_lt_of_cell? _ _ z50)).trans z50; have q1 := (hbw.cell (World.block_lt_of_cell? _ _ m0)).trans m0; have q2 := (hbw.cell (World.block_lt_of_cell? _ _ m1)).trans m1; have q3 := (hbw.cell (World.block_lt_of_cell? _ _ m2)).trans m2; have q4 := (hbw.cell (World.block_lt_of_cell? _ _ m3)).trans m3; have q5 := (hbw.cell (World.block_lt_of_cell? _ _ y1)).trans y1
         have HBW := mk_ hbw
         have HF := mk_ hF
         have YB := mk_ yb
         clear hb hbw hF hcN yb))
    · go_wp2
      go_meet
      exact ⟨w6.heap.size, AN, cN, rfl, ⟨heap_alloc_new _ _⟩, ⟨Kd.F_now (Kd.F_below HF.out (below_alloc (Below.refl _ _) _))⟩, ⟨below_alloc HBW.out _⟩⟩
    · go_wp2
      go_meet
      exact ⟨w5.heap.size, AN, cN, rfl, ⟨blk_put YB.out 0 _ rfl⟩, ⟨Kd.F_now (Kd.F_step HF.out (fun q hq _ => Below.heap_setCell w6 ⟨w5.heap.size, 0, none⟩ _ q (by rcases hq with hq | hq; exact Nat.ne_of_lt hq; simp at hq; exact Nat.ne_of_gt hq)))⟩, ⟨below_set HBW.out (Nat.le_refl _)⟩⟩
  case rest =>
    clear z50 m0 m1 m2 m3 y1
    obtain ⟨g15, AN, cN, rfl, HG, HCN, HBR⟩ := hcut
    have BX6 := mk_ (BX.out.below HBR.out)
    have HB6 := mk_ (below_step HB5.out HBR.out)
    have y0' : wc.cell? ⟨g6, 0, none⟩ = some (.int .i64 8) := by
      have h := (blk_cell BX6.out.b6 0).trans rfl
      rw [HOP.out] at h
      exact h
    have z15 : wc.cell? ⟨g15, 0, none⟩ = some (.slice AN ns.length cN) := (blk_cell HG.out 0).trans rfl
    clear z70 z80 z90 y0 y2 y3 y4 y5
    go_wp2_with (go_at_call 42; refine (some_any 56 #[.pointer (some ⟨g5, 0, none⟩), .pointer (some ⟨g6, 0, none⟩), .pointer (some ⟨g7, 0, none⟩), .pointer (some ⟨g15, 0, none⟩), .pointer (some ⟨g8, 0, none⟩), .pointer (some ⟨g9, 0, none⟩)] true (fun i => truthG ds ts id fs k (rd_T32 t.f5 0) (bnd ++ [rdOf ByteArray.empty ns i]) co m) 0 (ns.length : Int) r _ eg56 (fun W i q hW h0 h1 hq => bound_any IH W (BX6.out.below hW) (blk_below HG.out hW) (Kd.C_below HCN.out hW) i q h0 h1 HC.out.1 HC.out.2.2 hq) (by decide) (by have := HC.out; omega) (by rw [Int.sub_zero, Int.toNat_natCast]; exact HK.out)).mono ?_; rintro e w7 ⟨rfl, hb⟩; have HB7 := mk_ (below_step HB6.out hb); clear hb)
    go_ret
    exact ⟨rfl, HB7.out⟩
theorem truth_op9 {ds : List S73} {ts : List Int} {id : Int} {fs : List S62} {k : Nat} (IH : TruthC ds ts id fs k) : TruthAt ds ts id fs k (fun t => t.f0 = 9) := by
  intro b t A2 c2 A5 c5 bnd AB cB co m r w hop hmd htb hr2 hl2 hr5 hl5 hrB hlB h
  rw [truthG] at h
  simp only [hop, Int.reduceEq, ↓reduceIte] at h
  obtain ⟨⟨ns, ok⟩, hns, h⟩ := Option.bind_eq_some_iff.1 h
  have h : (if 0 < t.f5.length ∧ ns.length < 4398046511104 ∧ bnd.length < 4398046511104 then someL false (fun i => truthG ds ts id fs k (rd_T32 t.f5 0) (bnd ++ [rdOf ByteArray.empty ns i]) co m) ns.length 0 else none) = some r := h
  by_cases hc : 0 < t.f5.length ∧ ns.length < 4398046511104 ∧ bnd.length < 4398046511104
  case neg => rw [if_neg hc] at h; cases h
  rw [if_pos hc] at h
  have HC := mk_ hc
  have HNS := mk_ hns
  have HK := mk_ h
  clear h hns hc
  have HOP := mk_ hop
  have HMD := mk_ hmd
  have HTB := mk_ htb
  have HR2 := mk_ hr2
  have HR5 := mk_ hr5
  have HRB := mk_ hrB
  have HL := mk_ (And.intro hl2 (And.intro hl5 hlB))
  show Calls Tryd.prog 40 #[.pointer (some ⟨b, 0, none⟩), .agg #[.int .i64 t.f0, .string t.f1, .slice A2 t.f2.length c2, .int .i64 t.f3, .int .i64 t.f4, .slice A5 t.f5.length c5], .slice AB bnd.length cB, .int .i64 co, .int .i64 m] w _
  rw [hop]
  clear hop hmd htb hr2 hl2 hr5 hl5 hrB hlB
  have hu32 := Tryd.underlying32
  have hu84 := Tryd.underlying84
  have hu98 := Tryd.underlying98
  have hu92 := Tryd.underlying92
  have hu25 := Tryd.underlying25
  have HB0 := mk_ (Below.refl w.heap.size w)
  have T6 : True := trivial
  have T7 : True := trivial
  have T8 : True := trivial
  have eg56 : ∀ (args : Array Value) (w : World), (callFunc 56 args).run Tryd.prog w = .ok (.enter 56 args) w := enters_of Tryd.func56 (by kernel_rfl) rfl
  go_enter Tryd.func40, Tryd.ntmps40
  go_upto_region 22 with (first
    | ((with_reducible refine gate_dst (N := 5) rfl ?_); refine bx_ 5 #[.pointer (some ⟨b, 0, none⟩)] 76 ?_; intro g5 hg w1 hbox hb; have BB5 := mk_ hbox; have HB1 := mk_ (below_step HB0.out hb); clear hb hbox hg HB0)
    | ((with_reducible refine gate_dst (N := 6) rfl ?_); refine bx_ 6 #[.int .i64 9, .string t.f1, .slice A2 t.f2.length c2, .int .i64 t.f3, .int .i64 t.f4, .slice A5 t.f5.length c5] 32 ?_; intro g6 hg w2 hbox hb; replace BB5 := bl_ BB5 hb; have BB6 := mk_ hbox; have HB2 := mk_ (below_step HB1.out hb); clear hb hbox hg HB1)
    | ((with_reducible refine gate_dst (N := 7) rfl ?_); refine bx_ 7 #[.slice AB bnd.length cB] 60 ?_; intro g7 hg w3 hbox hb; replace BB5 := bl_ BB5 hb; replace BB6 := bl_ BB6 hb; have BB7 := mk_ hbox; have HB3 := mk_ (below_step HB2.out hb); clear hb hbox hg HB2)
    | ((with_reducible refine gate_dst (N := 8) rfl ?_); refine bx_ 8 #[.int .i64 co] 3 ?_; intro g8 hg w4 hbox hb; replace BB5 := bl_ BB5 hb; replace BB6 := bl_ BB6 hb; replace BB7 := bl_ BB7 hb; have BB8 := mk_ hbox; have HB4 := mk_ (below_step HB3.out hb); clear hb hbox hg HB3)
    | ((with_reducible refine gate_dst (N := 9) rfl ?_); refine bx_ 9 #[.int .i64 m] 3 ?_; intro g9 hg w5 hbox hb; replace BB5 := bl_ BB5 hb; replace BB6 := bl_ BB6 hb; replace BB7 := bl_ BB7 hb; replace BB8 := bl_ BB8 hb; have BB9 := mk_ hbox; have HB5 := mk_ (below_step HB4.out hb); clear hb hbox hg HB4; have BX := mk_ (bx5_ HMD HTB HR2 HR5 HRB HL HB5 BB5 ⟨HOP.out ▸ BB6.out⟩ BB7 BB8 BB9); clear BB5 BB6 BB7 BB8 BB9 HMD HTB HR2 HR5 HRB; have z50 := hc1_ BX.out.b5; obtain ⟨y0, y1, y2, y3, y4, y5, -, -, -, -, -, -⟩ := hb6_ ⟨BX.out.b6⟩; have z70 := hc1_ BX.out.b7; have z80 := hc1_ BX.out.b8; have z90 := hc1_ BX.out.b9; rw [HOP.out] at y0))
  obtain ⟨A0, c0, A1, c1, mb, nm, hm, hm0, hm1, hm2, hm3, hm4⟩ := BX.out.md
  have m0 : w5.cell? ⟨b, 0, none⟩ = some (.slice A0 ds.length c0) := (blk_cell hm 0).trans rfl
  have m1 : w5.cell? ⟨b, 1, none⟩ = some (.slice A1 ts.length c1) := (blk_cell hm 1).trans rfl
  have m2 : w5.cell? ⟨b, 2, none⟩ = some (.int .i64 id) := (blk_cell hm 2).trans rfl
  have m3 : w5.cell? ⟨b, 3, none⟩ = some (.map (some mb)) := (blk_cell hm 3).trans rfl
  have hcall : ∀ W, Below w5.heap.size w5 W → Calls Tryd.prog 47 #[.agg #[.slice A0 ds.length c0, .slice A1 ts.length c1, .int .i64 id], .string t.f1] W fun e w' => ∃ AN cN, e = .returned (.tuple #[.slice AN ns.length cN, .bool ok]) ∧ ns.length ≤ cN ∧ Kd.F Kd.string w' (fun k_ => k_ < w5.heap.size ∨ W.heap.size ≤ k_) AN ns.length ns ∧ Below W.heap.size W w' := by
    intro W hW
    refine (evaluate_individuals.calls k (fun k_ => k_ < w5.heap.size) A0 c0 ds A1 c1 ts id t.f1 ns ok W (Kd.V_mk hm0 (Kd.F_below (Kd.C_F k73_heap hm2) hW)) (Kd.C_below hm3 hW) hm1 HNS.out).mono ?_
    rintro e w' ⟨v, rfl, hv, hb⟩
    obtain ⟨AN, cN, rfl, hl, hf⟩ := hv
    exact ⟨AN, cN, rfl, hl, hf, hb⟩
  clear hm hm2 hm3 hm4
  go_cut [15] (fun v15 wx => ∃ g AN cN, v15 = .pointer (some ⟨g, 0, none⟩) ∧ Aside0 (wx.heap[g]? = some (.cells #[.slice AN ns.length cN] 60 (0, 0))) ∧ Aside0 (Kd.C Kd.string wx AN ns.length ns) ∧ Aside0 (Below w5.heap.size w5 wx))
  case first =>
    have nn0 := World.new_ne w5 _ z50
    have nn1 := World.new_ne w5 _ m0
    have nn2 := World.new_ne w5 _ m1
    have nn3 := World.new_ne w5 _ m2
    have nn4 := World.new_ne w5 _ m3
    have nn5 := World.new_ne w5 _ y1
    go_region_held3 (fun w' => w'.cell? ⟨g5, 0, none⟩ = some (.pointer (some ⟨b, 0, none⟩)) ∧ w'.cell? ⟨b, 0, none⟩ = some (.slice A0 ds.length c0) ∧ w'.cell? ⟨b, 1, none⟩ = some (.slice A1 ts.length c1) ∧ w'.cell? ⟨b, 2, none⟩ = some (.int .i64 id) ∧ w'.cell? ⟨b, 3, none⟩ = some (.map (some mb)) ∧ w'.cell? ⟨g6, 1, none⟩ = some (.string t.f1))
      (go_keep)
      (first
      | (go_at_call 47
         refine (hcall _ (by repeat (first | (with_reducible first | exact Below.refl _ _ | apply below_alloc | apply pw_below_drewN | apply below_drew)))).mono ?_
         rintro e w6 ⟨AN, cN, rfl, hcN, hF, hb⟩
         have _q := (show Below (w5.drew).heap.size (w5.drew) w6 from hb)
         have hbw : Below w5.heap.size w5 w6 := (below_drew (Below.refl _ _)).trans hb
         have q0 := (hbw.cell (World.block_lt_of_cell? _ _ z50)).trans z50; have q1 := (hbw.cell (World.block_lt_of_cell? _ _ m0)).trans m0; have q2 := (hbw.cell (World.block_lt_of_cell? _ _ m1)).trans m1; have q3 := (hbw.cell (World.block_lt_of_cell? _ _ m2)).trans m2; have q4 := (hbw.cell (World.block_lt_of_cell? _ _ m3)).trans m3; have q5 := (hbw.cell (World.block_lt_of_cell? _ _ y1)).trans y1
         have HBW := mk_ hbw
         have HF := mk_ hF
         clear hb hbw hF hcN _q)
      | (go_at_call 47
         refine (hcall _ (by repeat (first | (with_reducible first | exact Below.refl _ _ | apply below_alloc | apply pw_below_drewN | apply below_drew)))).mono ?_
         rintro e w6 ⟨AN, cN, rfl, hcN, hF, hb⟩
         have yb : w6.heap[w5.heap.size]? = some (.cells #[.slice none 0 0] 60 (0, 0)) := blk_below (blk_drew (heap_alloc_new _ _)) hb
         have yc := (blk_cell yb 0).trans rfl
         have yf := blk_frozen yb 0
         have hbw : Below w5.heap.size w5 w6 := (below_drew (below_alloc (Below.refl _ _) _)).trans (hb.mono (by simp))
         have q0 := (hbw.cell (World.block_lt_of_cell? _ _ z50)).trans z50; have q1 := (hbw.cell (World.block_lt_of_cell? _ _ m0)).trans m0; have q2 := (hbw.cell (World.block_lt_of_cell? _ _ m1)).trans m1; have q3 := (hbw.cell (World.block_lt_of_cell? _ _ m2)).trans m2; have q4 := (hbw.cell (World.block_lt_of_cell? _ _ m3)).trans m3; have q5 := (hbw.cell (World.block_lt_of_cell? _ _ y1)).trans y1
         have HBW := mk_ hbw
         have HF := mk_ hF
         have YB := mk_ yb
         clear hb hbw hF hcN yb))
    · go_wp2
      go_meet
      exact ⟨w6.heap.size, AN, cN, rfl, ⟨heap_alloc_new _ _⟩, ⟨Kd.F_now (Kd.F_below HF.out (below_alloc (Below.refl _ _) _))⟩, ⟨below_alloc HBW.out _⟩⟩
    · go_wp2
      go_meet
      exact ⟨w5.heap.size, AN, cN, rfl, ⟨blk_put YB.out 0 _ rfl⟩, ⟨Kd.F_now (Kd.F_step HF.out (fun q hq _ => Below.heap_setCell w6 ⟨w5.heap.size, 0, none⟩ _ q (by rcases hq with hq | hq; exact Nat.ne_of_lt hq; simp at hq; exact Nat.ne_of_gt hq)))⟩, ⟨below_set HBW.out (Nat.le_refl _)⟩⟩
  case rest =>
    clear z50 m0 m1 m2 m3 y1
    obtain ⟨g15, AN, cN, rfl, HG, HCN, HBR⟩ := hcut
    have BX6 := mk_ (BX.out.below HBR.out)
    have HB6 := mk_ (below_step HB5.out HBR.out)
    have y0' : wc.cell? ⟨g6, 0, none⟩ = some (.int .i64 9) := by
      have h := (blk_cell BX6.out.b6 0).trans rfl
      rw [HOP.out] at h
      exact h
    have z15 : wc.cell? ⟨g15, 0, none⟩ = some (.slice AN ns.length cN) := (blk_cell HG.out 0).trans rfl
    clear z70 z80 z90 y0 y2 y3 y4 y5
    go_wp2_with (go_at_call 42; refine (some_any 56 #[.pointer (some ⟨g5, 0, none⟩), .pointer (some ⟨g6, 0, none⟩), .pointer (some ⟨g7, 0, none⟩), .pointer (some ⟨g15, 0, none⟩), .pointer (some ⟨g8, 0, none⟩), .pointer (some ⟨g9, 0, none⟩)] false (fun i => truthG ds ts id fs k (rd_T32 t.f5 0) (bnd ++ [rdOf ByteArray.empty ns i]) co m) 0 (ns.length : Int) r _ eg56 (fun W i q hW h0 h1 hq => bound_any IH W (BX6.out.below hW) (blk_below HG.out hW) (Kd.C_below HCN.out hW) i q h0 h1 HC.out.1 HC.out.2.2 hq) (by decide) (by have := HC.out; omega) (by rw [Int.sub_zero, Int.toNat_natCast]; exact HK.out)).mono ?_; rintro e w7 ⟨rfl, hb⟩; have HB7 := mk_ (below_step HB6.out hb); clear hb)
    go_ret
    exact ⟨rfl, HB7.out⟩
theorem truth_op10 {ds : List S73} {ts : List Int} {id : Int} {fs : List S62} {k : Nat} (IH : TruthC ds ts id fs k) : TruthAt ds ts id fs k (fun t => t.f0 = 10) := by
  intro b t A2 c2 A5 c5 bnd AB cB co m r w hop hmd htb hr2 hl2 hr5 hl5 hrB hlB h
  rw [truthG] at h
  simp only [hop, Int.reduceEq, ↓reduceIte] at h
  obtain ⟨⟨aa, bb, ok⟩, hab, h⟩ := Option.bind_eq_some_iff.1 h
  have h : (if 0 < t.f5.length ∧ -4611686018427387904 ≤ aa ∧ bb ≤ 4611686018427387904 then someL true (fun i => truthG ds ts id fs k (rd_T32 t.f5 0) bnd co i) (bb - aa).toNat aa else none) = some r := h
  by_cases hc : 0 < t.f5.length ∧ -4611686018427387904 ≤ aa ∧ bb ≤ 4611686018427387904
  case neg => rw [if_neg hc] at h; cases h
  rw [if_pos hc] at h
  have HC := mk_ hc
  have HAB := mk_ hab
  have HK := mk_ h
  clear h hab hc
  have HOP := mk_ hop
  have HMD := mk_ hmd
  have HTB := mk_ htb
  have HR2 := mk_ hr2
  have HR5 := mk_ hr5
  have HRB := mk_ hrB
  have HL := mk_ (And.intro hl2 (And.intro hl5 hlB))
  show Calls Tryd.prog 40 #[.pointer (some ⟨b, 0, none⟩), .agg #[.int .i64 t.f0, .string t.f1, .slice A2 t.f2.length c2, .int .i64 t.f3, .int .i64 t.f4, .slice A5 t.f5.length c5], .slice AB bnd.length cB, .int .i64 co, .int .i64 m] w _
  rw [hop]
  clear hop hmd htb hr2 hl2 hr5 hl5 hrB hlB
  have hu32 := Tryd.underlying32
  have hu84 := Tryd.underlying84
  have hu98 := Tryd.underlying98
  have hu92 := Tryd.underlying92
  have hu25 := Tryd.underlying25
  have HB0 := mk_ (Below.refl w.heap.size w)
  have T6 : True := trivial
  have T7 : True := trivial
  have T8 : True := trivial
  have eg57 : ∀ (args : Array Value) (w : World), (callFunc 57 args).run Tryd.prog w = .ok (.enter 57 args) w := enters_of Tryd.func57 (by kernel_rfl) rfl
  go_enter Tryd.func40, Tryd.ntmps40
  go_upto_region 25 with (first
    | ((with_reducible refine gate_dst (N := 5) rfl ?_); refine bx_ 5 #[.pointer (some ⟨b, 0, none⟩)] 76 ?_; intro g5 hg w1 hbox hb; have BB5 := mk_ hbox; have HB1 := mk_ (below_step HB0.out hb); clear hb hbox hg HB0)
    | ((with_reducible refine gate_dst (N := 6) rfl ?_); refine bx_ 6 #[.int .i64 10, .string t.f1, .slice A2 t.f2.length c2, .int .i64 t.f3, .int .i64 t.f4, .slice A5 t.f5.length c5] 32 ?_; intro g6 hg w2 hbox hb; replace BB5 := bl_ BB5 hb; have BB6 := mk_ hbox; have HB2 := mk_ (below_step HB1.out hb); clear hb hbox hg HB1)
    | ((with_reducible refine gate_dst (N := 7) rfl ?_); refine bx_ 7 #[.slice AB bnd.length cB] 60 ?_; intro g7 hg w3 hbox hb; replace BB5 := bl_ BB5 hb; replace BB6 := bl_ BB6 hb; have BB7 := mk_ hbox; have HB3 := mk_ (below_step HB2.out hb); clear hb hbox hg HB2)
    | ((with_reducible refine gate_dst (N := 8) rfl ?_); refine bx_ 8 #[.int .i64 co] 3 ?_; intro g8 hg w4 hbox hb; replace BB5 := bl_ BB5 hb; replace BB6 := bl_ BB6 hb; replace BB7 := bl_ BB7 hb; have BB8 := mk_ hbox; have HB4 := mk_ (below_step HB3.out hb); clear hb hbox hg HB3)
    | ((with_reducible refine gate_dst (N := 9) rfl ?_); refine bx_ 9 #[.int .i64 m] 3 ?_; intro g9 hg w5 hbox hb; replace BB5 := bl_ BB5 hb; replace BB6 := bl_ BB6 hb; replace BB7 := bl_ BB7 hb; replace BB8 := bl_ BB8 hb; have BB9 := mk_ hbox; have HB5 := mk_ (below_step HB4.out hb); clear hb hbox hg HB4; have BX := mk_ (bx5_ HMD HTB HR2 HR5 HRB HL HB5 BB5 ⟨HOP.out ▸ BB6.out⟩ BB7 BB8 BB9); clear BB5 BB6 BB7 BB8 BB9 HMD HTB HR2 HR5 HRB; have z50 := hc1_ BX.out.b5; obtain ⟨y0, y1, y2, y3, y4, y5, -, -, -, -, -, -⟩ := hb6_ ⟨BX.out.b6⟩; have z70 := hc1_ BX.out.b7; have z80 := hc1_ BX.out.b8; have z90 := hc1_ BX.out.b9; rw [HOP.out] at y0))
  obtain ⟨A0, c0, A1, c1, mb, nm, hm, hm0, hm1, hm2, hm3, hm4⟩ := BX.out.md
  refine start_ (n := 16) (S := fun w' => w'.cell? ⟨g5, 0, none⟩ = some (.pointer (some ⟨b, 0, none⟩)) ∧ w'.cell? ⟨b, 0, none⟩ = some (.slice A0 ds.length c0) ∧ w'.cell? ⟨b, 1, none⟩ = some (.slice A1 ts.length c1) ∧ w'.cell? ⟨b, 2, none⟩ = some (.int .i64 id) ∧ w'.cell? ⟨b, 3, none⟩ = some (.map (some mb)) ∧ w'.cell? ⟨g6, 3, none⟩ = some (.int .i64 t.f3) ∧ w'.cell? ⟨g6, 4, none⟩ = some (.int .i64 t.f4)) (ds := [8]) (Array.replicate 16 false) (by kernel_rfl) rfl rfl ⟨(blk_cell (blk_drew BX.out.b5) 0).trans rfl, (blk_cell (blk_drew hm) 0).trans rfl, (blk_cell (blk_drew hm) 1).trans rfl, (blk_cell (blk_drew hm) 2).trans rfl, (blk_cell (blk_drew hm) 3).trans rfl, (blk_cell (blk_drew BX.out.b6) 3).trans rfl, (blk_cell (blk_drew BX.out.b6) 4).trans rfl⟩ (fun hHeld => ?_)
  refine tk_ 0 (some 104) hHeld ?_
  refine pu_ 1 (some 105) ?_
  refine pu_ 2 (some 106) ?_
  refine tk_ 3 (some 107) hHeld ?_
  refine pu_ 4 (some 108) ?_
  refine tk_ 5 (some 109) hHeld ?_
  refine pu_ 6 (some 110) ?_
  refine tk_ 7 (some 111) hHeld ?_
  refine la_ 8 (some 112) (fun K hK => ?_)
  refine go_ Tryd.func45 #[.agg #[.slice A0 ds.length c0, .slice A1 ts.length c1, .int .i64 id], .int .i64 t.f3, .int .i64 t.f4] ?_
  refine (evaluate_interval.calls k A0 c0 ds A1 c1 ts id t.f3 t.f4 aa bb ok _ (Kd.C_below hm2 (below_drew (Below.refl _ _))) hm0 (Kd.C_below hm3 (below_drew (Below.refl _ _))) hm1 HAB.out).mono ?_
  rintro e w6 ⟨rfl, hb⟩
  refine ⟨_, rfl, ?_⟩
  have HB6 := mk_ (below_step HB5.out ((below_drew (Below.refl _ _)).trans hb))
  have BX6 := mk_ (BX.out.below ((below_drew (Below.refl _ _)).trans hb))
  clear hb
  refine hK.out _ _ ?_
  clear hK K
  refine no_ (N := some 112) ?_
  refine pu_ 9 (some 103) ?_
  refine pu_ 10 (some 113) ?_
  refine pu_ 11 (some 114) ?_
  refine pu_ 12 (some 115) ?_
  refine pu_ 13 (some 17) ?_
  refine pu_ 14 (some 18) ?_
  refine pu_ 15 (some 19) ?_
  refine done_ (by kernel_rfl) ?_
  go_wp2_with (go_at_call 42; refine (some_any 57 #[.pointer (some ⟨g5, 0, none⟩), .pointer (some ⟨g6, 0, none⟩), .pointer (some ⟨g7, 0, none⟩), .pointer (some ⟨g8, 0, none⟩)] true (fun i => truthG ds ts id fs k (rd_T32 t.f5 0) bnd co i) aa bb r _ eg57 (fun W i q hW h0 h1 hq => during_any IH W (BX6.out.below hW) i q HC.out.1 hq) (by have := HC.out; omega) (by have := HC.out; omega) HK.out).mono ?_; rintro e w7 ⟨rfl, hb⟩; have HB7 := mk_ (below_step HB6.out hb); clear hb)
  go_ret
  exact ⟨rfl, HB7.out⟩
theorem truth_op11 {ds : List S73} {ts : List Int} {id : Int} {fs : List S62} {k : Nat} (IH : TruthC ds ts id fs k) : TruthAt ds ts id fs k (fun t => t.f0 = 11) := by
  intro b t A2 c2 A5 c5 bnd AB cB co m r w hop hmd htb hr2 hl2 hr5 hl5 hrB hlB h
  rw [truthG] at h
  simp only [hop, Int.reduceEq, ↓reduceIte] at h
  by_cases hc : 0 < t.f5.length ∧ 0 ≤ id ∧ id < 4611686018427387904
  case neg => rw [if_neg hc] at h; cases h
  rw [if_pos hc] at h
  have HC := mk_ hc
  have HK := mk_ h
  have e1 : IntKind.i64.wrap (id + 1) = id + 1 := by rw [i64_w]; unfold wrap64; omega
  have e1' : wrap64 (id + 1) = id + 1 := by unfold wrap64; omega
  clear h hc
  have HOP := mk_ hop
  have HMD := mk_ hmd
  have HTB := mk_ htb
  have HR2 := mk_ hr2
  have HR5 := mk_ hr5
  have HRB := mk_ hrB
  have HL := mk_ (And.intro hl2 (And.intro hl5 hlB))
  show Calls Tryd.prog 40 #[.pointer (some ⟨b, 0, none⟩), .agg #[.int .i64 t.f0, .string t.f1, .slice A2 t.f2.length c2, .int .i64 t.f3, .int .i64 t.f4, .slice A5 t.f5.length c5], .slice AB bnd.length cB, .int .i64 co, .int .i64 m] w _
  rw [hop]
  clear hop hmd htb hr2 hl2 hr5 hl5 hrB hlB
  have hu32 := Tryd.underlying32
  have hu84 := Tryd.underlying84
  have hu98 := Tryd.underlying98
  have hu92 := Tryd.underlying92
  have hu25 := Tryd.underlying25
  have HB0 := mk_ (Below.refl w.heap.size w)
  have T6 : True := trivial
  have T7 : True := trivial
  have T8 : True := trivial
  have eg58 : ∀ (args : Array Value) (w : World), (callFunc 58 args).run Tryd.prog w = .ok (.enter 58 args) w := enters_of Tryd.func58 (by kernel_rfl) rfl
  go_enter Tryd.func40, Tryd.ntmps40
  go_upto_region 29 with (first
    | ((with_reducible refine gate_dst (N := 5) rfl ?_); refine bx_ 5 #[.pointer (some ⟨b, 0, none⟩)] 76 ?_; intro g5 hg w1 hbox hb; have BB5 := mk_ hbox; have HB1 := mk_ (below_step HB0.out hb); clear hb hbox hg HB0)
    | ((with_reducible refine gate_dst (N := 6) rfl ?_); refine bx_ 6 #[.int .i64 11, .string t.f1, .slice A2 t.f2.length c2, .int .i64 t.f3, .int .i64 t.f4, .slice A5 t.f5.length c5] 32 ?_; intro g6 hg w2 hbox hb; replace BB5 := bl_ BB5 hb; have BB6 := mk_ hbox; have HB2 := mk_ (below_step HB1.out hb); clear hb hbox hg HB1)
    | ((with_reducible refine gate_dst (N := 7) rfl ?_); refine bx_ 7 #[.slice AB bnd.length cB] 60 ?_; intro g7 hg w3 hbox hb; replace BB5 := bl_ BB5 hb; replace BB6 := bl_ BB6 hb; have BB7 := mk_ hbox; have HB3 := mk_ (below_step HB2.out hb); clear hb hbox hg HB2)
    | ((with_reducible refine gate_dst (N := 8) rfl ?_); refine bx_ 8 #[.int .i64 co] 3 ?_; intro g8 hg w4 hbox hb; replace BB5 := bl_ BB5 hb; replace BB6 := bl_ BB6 hb; replace BB7 := bl_ BB7 hb; have BB8 := mk_ hbox; have HB4 := mk_ (below_step HB3.out hb); clear hb hbox hg HB3)
    | ((with_reducible refine gate_dst (N := 9) rfl ?_); refine bx_ 9 #[.int .i64 m] 3 ?_; intro g9 hg w5 hbox hb; replace BB5 := bl_ BB5 hb; replace BB6 := bl_ BB6 hb; replace BB7 := bl_ BB7 hb; replace BB8 := bl_ BB8 hb; have BB9 := mk_ hbox; have HB5 := mk_ (below_step HB4.out hb); clear hb hbox hg HB4; have BX := mk_ (bx5_ HMD HTB HR2 HR5 HRB HL HB5 BB5 ⟨HOP.out ▸ BB6.out⟩ BB7 BB8 BB9); clear BB5 BB6 BB7 BB8 BB9 HMD HTB HR2 HR5 HRB; have z50 := hc1_ BX.out.b5; obtain ⟨y0, y1, y2, y3, y4, y5, -, -, -, -, -, -⟩ := hb6_ ⟨BX.out.b6⟩; have z70 := hc1_ BX.out.b7; have z80 := hc1_ BX.out.b8; have z90 := hc1_ BX.out.b9; rw [HOP.out] at y0))
  obtain ⟨A0, c0, A1, c1, mb, nm, hm, hm0, hm1, hm2, hm3, hm4⟩ := BX.out.md
  refine start_ (n := 12) (S := fun w' => w'.cell? ⟨g6, 0, none⟩ = some (.int .i64 11) ∧ w'.cell? ⟨g5, 0, none⟩ = some (.pointer (some ⟨b, 0, none⟩)) ∧ w'.cell? ⟨b, 0, none⟩ = some (.slice A0 ds.length c0) ∧ w'.cell? ⟨b, 1, none⟩ = some (.slice A1 ts.length c1) ∧ w'.cell? ⟨b, 2, none⟩ = some (.int .i64 id) ∧ w'.cell? ⟨b, 3, none⟩ = some (.map (some mb))) (ds := [10]) (Array.replicate 12 false) (by kernel_rfl) rfl rfl ⟨y0, (blk_cell (blk_drew BX.out.b5) 0).trans rfl, (blk_cell (blk_drew hm) 0).trans rfl, (blk_cell (blk_drew hm) 1).trans rfl, (blk_cell (blk_drew hm) 2).trans rfl, (blk_cell (blk_drew hm) 3).trans rfl⟩ (fun hHeld => ?_)
  refine pu_ 0 (some 123) ?_
  refine tk_ 1 (some 124) hHeld ?_
  refine pu_ 2 (some 125) ?_
  refine tk_ 3 (some 126) hHeld ?_
  refine pu_ 4 (some 127) ?_
  refine pu_ 5 (some 128) ?_
  refine pu_ 6 (some 129) ?_
  refine tk_ 7 (some 130) hHeld ?_
  refine pu_ 8 (some 131) ?_
  refine pu_ 9 (some 132) ?_
  refine la_ 10 (some 133) (fun K hK => ?_)
  refine go_ Tryd.func42 #[.bool true, .int .i64 1, .int .i64 (id + 1), .func (.func 58) #[] #[.pointer (some ⟨g5, 0, none⟩), .pointer (some ⟨g6, 0, none⟩), .pointer (some ⟨g7, 0, none⟩), .pointer (some ⟨g9, 0, none⟩)]] ?_
  refine (some_any 58 #[.pointer (some ⟨g5, 0, none⟩), .pointer (some ⟨g6, 0, none⟩), .pointer (some ⟨g7, 0, none⟩), .pointer (some ⟨g9, 0, none⟩)] true (fun i => truthG ds ts id fs k (rd_T32 t.f5 0) bnd i m) 1 (id + 1) r _ eg58 (fun W i q hW h0 h1 hq => ideal_any IH W (BX.out.below ((below_drew (Below.refl _ _)).trans hW)) i q HC.out.1 hq) (by decide) (by have := HC.out; omega) (by rw [show (id + 1 - 1).toNat = id.toNat by omega]; exact HK.out)).mono ?_
  rintro e w6 ⟨rfl, hb⟩
  refine ⟨_, rfl, ?_⟩
  have HB6 := mk_ (below_step HB5.out ((below_drew (Below.refl _ _)).trans hb))
  clear hb
  refine hK.out _ _ ?_
  clear hK K
  refine no_ (N := some 133) ?_
  refine pu_ 11 (some 10) ?_
  refine done_ (by kernel_rfl) ?_
  go_wp2
  go_ret
  exact ⟨rfl, HB6.out⟩
theorem truth_op12 {ds : List S73} {ts : List Int} {id : Int} {fs : List S62} {k : Nat} (IH : TruthC ds ts id fs k) : TruthAt ds ts id fs k (fun t => t.f0 = 12) := by
  intro b t A2 c2 A5 c5 bnd AB cB co m r w hop hmd htb hr2 hl2 hr5 hl5 hrB hlB h
  rw [truthG] at h
  simp only [hop, Int.reduceEq, ↓reduceIte] at h
  by_cases hc : 0 < t.f5.length ∧ 0 ≤ id ∧ id < 4611686018427387904
  case neg => rw [if_neg hc] at h; cases h
  rw [if_pos hc] at h
  have HC := mk_ hc
  have HK := mk_ h
  have e1 : IntKind.i64.wrap (id + 1) = id + 1 := by rw [i64_w]; unfold wrap64; omega
  have e1' : wrap64 (id + 1) = id + 1 := by unfold wrap64; omega
  clear h hc
  have HOP := mk_ hop
  have HMD := mk_ hmd
  have HTB := mk_ htb
  have HR2 := mk_ hr2
  have HR5 := mk_ hr5
  have HRB := mk_ hrB
  have HL := mk_ (And.intro hl2 (And.intro hl5 hlB))
  show Calls Tryd.prog 40 #[.pointer (some ⟨b, 0, none⟩), .agg #[.int .i64 t.f0, .string t.f1, .slice A2 t.f2.length c2, .int .i64 t.f3, .int .i64 t.f4, .slice A5 t.f5.length c5], .slice AB bnd.length cB, .int .i64 co, .int .i64 m] w _
  rw [hop]
  clear hop hmd htb hr2 hl2 hr5 hl5 hrB hlB
  have hu32 := Tryd.underlying32
  have hu84 := Tryd.underlying84
  have hu98 := Tryd.underlying98
  have hu92 := Tryd.underlying92
  have hu25 := Tryd.underlying25
  have HB0 := mk_ (Below.refl w.heap.size w)
  have T6 : True := trivial
  have T7 : True := trivial
  have T8 : True := trivial
  have eg58 : ∀ (args : Array Value) (w : World), (callFunc 58 args).run Tryd.prog w = .ok (.enter 58 args) w := enters_of Tryd.func58 (by kernel_rfl) rfl
  go_enter Tryd.func40, Tryd.ntmps40
  go_upto_region 29 with (first
    | ((with_reducible refine gate_dst (N := 5) rfl ?_); refine bx_ 5 #[.pointer (some ⟨b, 0, none⟩)] 76 ?_; intro g5 hg w1 hbox hb; have BB5 := mk_ hbox; have HB1 := mk_ (below_step HB0.out hb); clear hb hbox hg HB0)
    | ((with_reducible refine gate_dst (N := 6) rfl ?_); refine bx_ 6 #[.int .i64 12, .string t.f1, .slice A2 t.f2.length c2, .int .i64 t.f3, .int .i64 t.f4, .slice A5 t.f5.length c5] 32 ?_; intro g6 hg w2 hbox hb; replace BB5 := bl_ BB5 hb; have BB6 := mk_ hbox; have HB2 := mk_ (below_step HB1.out hb); clear hb hbox hg HB1)
    | ((with_reducible refine gate_dst (N := 7) rfl ?_); refine bx_ 7 #[.slice AB bnd.length cB] 60 ?_; intro g7 hg w3 hbox hb; replace BB5 := bl_ BB5 hb; replace BB6 := bl_ BB6 hb; have BB7 := mk_ hbox; have HB3 := mk_ (below_step HB2.out hb); clear hb hbox hg HB2)
    | ((with_reducible refine gate_dst (N := 8) rfl ?_); refine bx_ 8 #[.int .i64 co] 3 ?_; intro g8 hg w4 hbox hb; replace BB5 := bl_ BB5 hb; replace BB6 := bl_ BB6 hb; replace BB7 := bl_ BB7 hb; have BB8 := mk_ hbox; have HB4 := mk_ (below_step HB3.out hb); clear hb hbox hg HB3)
    | ((with_reducible refine gate_dst (N := 9) rfl ?_); refine bx_ 9 #[.int .i64 m] 3 ?_; intro g9 hg w5 hbox hb; replace BB5 := bl_ BB5 hb; replace BB6 := bl_ BB6 hb; replace BB7 := bl_ BB7 hb; replace BB8 := bl_ BB8 hb; have BB9 := mk_ hbox; have HB5 := mk_ (below_step HB4.out hb); clear hb hbox hg HB4; have BX := mk_ (bx5_ HMD HTB HR2 HR5 HRB HL HB5 BB5 ⟨HOP.out ▸ BB6.out⟩ BB7 BB8 BB9); clear BB5 BB6 BB7 BB8 BB9 HMD HTB HR2 HR5 HRB; have z50 := hc1_ BX.out.b5; obtain ⟨y0, y1, y2, y3, y4, y5, -, -, -, -, -, -⟩ := hb6_ ⟨BX.out.b6⟩; have z70 := hc1_ BX.out.b7; have z80 := hc1_ BX.out.b8; have z90 := hc1_ BX.out.b9; rw [HOP.out] at y0))
  obtain ⟨A0, c0, A1, c1, mb, nm, hm, hm0, hm1, hm2, hm3, hm4⟩ := BX.out.md
  refine start_ (n := 12) (S := fun w' => w'.cell? ⟨g6, 0, none⟩ = some (.int .i64 12) ∧ w'.cell? ⟨g5, 0, none⟩ = some (.pointer (some ⟨b, 0, none⟩)) ∧ w'.cell? ⟨b, 0, none⟩ = some (.slice A0 ds.length c0) ∧ w'.cell? ⟨b, 1, none⟩ = some (.slice A1 ts.length c1) ∧ w'.cell? ⟨b, 2, none⟩ = some (.int .i64 id) ∧ w'.cell? ⟨b, 3, none⟩ = some (.map (some mb))) (ds := [10]) (Array.replicate 12 false) (by kernel_rfl) rfl rfl ⟨y0, (blk_cell (blk_drew BX.out.b5) 0).trans rfl, (blk_cell (blk_drew hm) 0).trans rfl, (blk_cell (blk_drew hm) 1).trans rfl, (blk_cell (blk_drew hm) 2).trans rfl, (blk_cell (blk_drew hm) 3).trans rfl⟩ (fun hHeld => ?_)
  refine pu_ 0 (some 123) ?_
  refine tk_ 1 (some 124) hHeld ?_
  refine pu_ 2 (some 125) ?_
  refine tk_ 3 (some 126) hHeld ?_
  refine pu_ 4 (some 127) ?_
  refine pu_ 5 (some 128) ?_
  refine pu_ 6 (some 129) ?_
  refine tk_ 7 (some 130) hHeld ?_
  refine pu_ 8 (some 131) ?_
  refine pu_ 9 (some 132) ?_
  refine la_ 10 (some 133) (fun K hK => ?_)
  refine go_ Tryd.func42 #[.bool false, .int .i64 1, .int .i64 (id + 1), .func (.func 58) #[] #[.pointer (some ⟨g5, 0, none⟩), .pointer (some ⟨g6, 0, none⟩), .pointer (some ⟨g7, 0, none⟩), .pointer (some ⟨g9, 0, none⟩)]] ?_
  refine (some_any 58 #[.pointer (some ⟨g5, 0, none⟩), .pointer (some ⟨g6, 0, none⟩), .pointer (some ⟨g7, 0, none⟩), .pointer (some ⟨g9, 0, none⟩)] false (fun i => truthG ds ts id fs k (rd_T32 t.f5 0) bnd i m) 1 (id + 1) r _ eg58 (fun W i q hW h0 h1 hq => ideal_any IH W (BX.out.below ((below_drew (Below.refl _ _)).trans hW)) i q HC.out.1 hq) (by decide) (by have := HC.out; omega) (by rw [show (id + 1 - 1).toNat = id.toNat by omega]; exact HK.out)).mono ?_
  rintro e w6 ⟨rfl, hb⟩
  refine ⟨_, rfl, ?_⟩
  have HB6 := mk_ (below_step HB5.out ((below_drew (Below.refl _ _)).trans hb))
  clear hb
  refine hK.out _ _ ?_
  clear hK K
  refine no_ (N := some 133) ?_
  refine pu_ 11 (some 10) ?_
  refine done_ (by kernel_rfl) ?_
  go_wp2
  go_ret
  exact ⟨rfl, HB6.out⟩
theorem truth_opx {ds : List S73} {ts : List Int} {id : Int} {fs : List S62} {k : Nat} (IH : TruthC ds ts id fs k) : TruthAt ds ts id fs k (fun t => t.f0 ≠ 1 ∧ t.f0 ≠ 3 ∧ t.f0 ≠ 4 ∧ t.f0 ≠ 5 ∧ t.f0 ≠ 6 ∧ t.f0 ≠ 7 ∧ t.f0 ≠ 8 ∧ t.f0 ≠ 9 ∧ t.f0 ≠ 10 ∧ t.f0 ≠ 11 ∧ t.f0 ≠ 12) := by
  intro b t A2 c2 A5 c5 bnd AB cB co m r w hop hmd htb hr2 hl2 hr5 hl5 hrB hlB h
  obtain ⟨n1, n3, n4, n5, n6, n7, n8, n9, n10, n11, n12⟩ := hop
  have hop : True := trivial
  rw [truthG] at h
  simp only [n1, n3, n4, n5, n6, n7, n8, n9, n10, n11, n12, ↓reduceIte] at h
  obtain rfl := Option.some.inj h
  have d1 : (t.f0 == 1) = false := beq_eq_false_iff_ne.mpr n1
  have d3 : (t.f0 == 3) = false := beq_eq_false_iff_ne.mpr n3
  have d4 : (t.f0 == 4) = false := beq_eq_false_iff_ne.mpr n4
  have d5 : (t.f0 == 5) = false := beq_eq_false_iff_ne.mpr n5
  have d6 : (t.f0 == 6) = false := beq_eq_false_iff_ne.mpr n6
  have d7 : (t.f0 == 7) = false := beq_eq_false_iff_ne.mpr n7
  have d8 : (t.f0 == 8) = false := beq_eq_false_iff_ne.mpr n8
  have d9 : (t.f0 == 9) = false := beq_eq_false_iff_ne.mpr n9
  have d10 : (t.f0 == 10) = false := beq_eq_false_iff_ne.mpr n10
  have d11 : (t.f0 == 11) = false := beq_eq_false_iff_ne.mpr n11
  have d12 : (t.f0 == 12) = false := beq_eq_false_iff_ne.mpr n12
  clear h n1 n3 n4 n5 n6 n7 n8 n9 n10 n11 n12
  have HOP := mk_ hop
  have HMD := mk_ hmd
  have HTB := mk_ htb
  have HR2 := mk_ hr2
  have HR5 := mk_ hr5
  have HRB := mk_ hrB
  have HL := mk_ (And.intro hl2 (And.intro hl5 hlB))
  clear hop hmd htb hr2 hl2 hr5 hl5 hrB hlB
  have hu32 := Tryd.underlying32
  have hu84 := Tryd.underlying84
  have hu98 := Tryd.underlying98
  have hu92 := Tryd.underlying92
  have hu25 := Tryd.underlying25
  have HB0 := mk_ (Below.refl w.heap.size w)
  have T6 : True := trivial
  have T7 : True := trivial
  have T8 : True := trivial
  go_enter Tryd.func40, Tryd.ntmps40
  go_wp2_with (first
    | ((with_reducible refine gate_dst (N := 5) rfl ?_); refine bx_ 5 #[.pointer (some ⟨b, 0, none⟩)] 76 ?_; intro g5 hg w1 hbox hb; have BB5 := mk_ hbox; have HB1 := mk_ (below_step HB0.out hb); clear hb hbox hg HB0)
    | ((with_reducible refine gate_dst (N := 6) rfl ?_); refine bx_ 6 #[.int .i64 t.f0, .string t.f1, .slice A2 t.f2.length c2, .int .i64 t.f3, .int .i64 t.f4, .slice A5 t.f5.length c5] 32 ?_; intro g6 hg w2 hbox hb; replace BB5 := bl_ BB5 hb; have BB6 := mk_ hbox; have HB2 := mk_ (below_step HB1.out hb); clear hb hbox hg HB1)
    | ((with_reducible refine gate_dst (N := 7) rfl ?_); refine bx_ 7 #[.slice AB bnd.length cB] 60 ?_; intro g7 hg w3 hbox hb; replace BB5 := bl_ BB5 hb; replace BB6 := bl_ BB6 hb; have BB7 := mk_ hbox; have HB3 := mk_ (below_step HB2.out hb); clear hb hbox hg HB2)
    | ((with_reducible refine gate_dst (N := 8) rfl ?_); refine bx_ 8 #[.int .i64 co] 3 ?_; intro g8 hg w4 hbox hb; replace BB5 := bl_ BB5 hb; replace BB6 := bl_ BB6 hb; replace BB7 := bl_ BB7 hb; have BB8 := mk_ hbox; have HB4 := mk_ (below_step HB3.out hb); clear hb hbox hg HB3)
    | ((with_reducible refine gate_dst (N := 9) rfl ?_); refine bx_ 9 #[.int .i64 m] 3 ?_; intro g9 hg w5 hbox hb; replace BB5 := bl_ BB5 hb; replace BB6 := bl_ BB6 hb; replace BB7 := bl_ BB7 hb; replace BB8 := bl_ BB8 hb; have BB9 := mk_ hbox; have HB5 := mk_ (below_step HB4.out hb); clear hb hbox hg HB4; have BX := mk_ (bx5_ HMD HTB HR2 HR5 HRB HL HB5 BB5 BB6 BB7 BB8 BB9); clear BB5 BB6 BB7 BB8 BB9 HMD HTB HR2 HR5 HRB; have z50 := hc1_ BX.out.b5; obtain ⟨y0, y1, y2, y3, y4, y5, -, -, -, -, -, -⟩ := hb6_ ⟨BX.out.b6⟩; have z70 := hc1_ BX.out.b7; have z80 := hc1_ BX.out.b8; have z90 := hc1_ BX.out.b9))
  go_ret
  exact ⟨rfl, HB5.out⟩
theorem truth_any (ds : List S73) (ts : List Int) (id : Int) (fs : List S62) : ∀ k, TruthC ds ts id fs k
  | 0 => by
    intro b t A2 c2 A5 c5 bnd AB cB co m r w _ _ _ _ _ _ _ _ h
    rw [truthG] at h
    cases h
  | k + 1 => by
    intro b t A2 c2 A5 c5 bnd AB cB co m r w h1 h2 h3 h4 h5 h6 h7 h8 h
    have IH := truth_any ds ts id fs k
    by_cases n1 : t.f0 = 1
    · exact truth_op1 IH b t A2 c2 A5 c5 bnd AB cB co m r w n1 h1 h2 h3 h4 h5 h6 h7 h8 h
    by_cases n3 : t.f0 = 3
    · exact truth_op3 IH b t A2 c2 A5 c5 bnd AB cB co m r w n3 h1 h2 h3 h4 h5 h6 h7 h8 h
    by_cases n4 : t.f0 = 4
    · exact truth_op4 IH b t A2 c2 A5 c5 bnd AB cB co m r w n4 h1 h2 h3 h4 h5 h6 h7 h8 h
    by_cases n5 : t.f0 = 5
    · exact truth_op5 IH b t A2 c2 A5 c5 bnd AB cB co m r w n5 h1 h2 h3 h4 h5 h6 h7 h8 h
    by_cases n6 : t.f0 = 6
    · exact truth_op6 IH b t A2 c2 A5 c5 bnd AB cB co m r w n6 h1 h2 h3 h4 h5 h6 h7 h8 h
    by_cases n7 : t.f0 = 7
    · exact truth_op7 IH b t A2 c2 A5 c5 bnd AB cB co m r w n7 h1 h2 h3 h4 h5 h6 h7 h8 h
    by_cases n8 : t.f0 = 8
    · exact truth_op8 IH b t A2 c2 A5 c5 bnd AB cB co m r w n8 h1 h2 h3 h4 h5 h6 h7 h8 h
    by_cases n9 : t.f0 = 9
    · exact truth_op9 IH b t A2 c2 A5 c5 bnd AB cB co m r w n9 h1 h2 h3 h4 h5 h6 h7 h8 h
    by_cases n10 : t.f0 = 10
    · exact truth_op10 IH b t A2 c2 A5 c5 bnd AB cB co m r w n10 h1 h2 h3 h4 h5 h6 h7 h8 h
    by_cases n11 : t.f0 = 11
    · exact truth_op11 IH b t A2 c2 A5 c5 bnd AB cB co m r w n11 h1 h2 h3 h4 h5 h6 h7 h8 h
    by_cases n12 : t.f0 = 12
    · exact truth_op12 IH b t A2 c2 A5 c5 bnd AB cB co m r w n12 h1 h2 h3 h4 h5 h6 h7 h8 h
    exact truth_opx IH b t A2 c2 A5 c5 bnd AB cB co m r w ⟨n1, n3, n4, n5, n6, n7, n8, n9, n10, n11, n12⟩ h1 h2 h3 h4 h5 h6 h7 h8 h
end Go.Proofs.YtolpckflofjfhaaDoor.P
