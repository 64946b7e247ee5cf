-- printed by wip/tools/xprint.py
import Derived.Test.YtolpckflofjfhaaDoorPx0
import Derived.Test.YtolpckflofjfhaaDoorPx6
import Derived.Test.YtolpckflofjfhaaDoorPx8
import Derived.Test.YtolpckflofjfhaaDoorPx9
import Derived.Test.YtolpckflofjfhaaDoorPx10
namespace Go.Proofs.YtolpckflofjfhaaDoor.P
open Go.RowKit Go.Proofs.YtolpckflofjfhaaDoorW.PrintWords Go.Proofs.YtolpckflofjfhaaDoorW.PrintLast Go.Proofs.YtolpckflofjfhaaDoorW.PrintMore
attribute [local go_sem] max2_int min2_int max_two min_two max_three min_three max_four min_four
set_option linter.unusedVariables false
set_option maxHeartbeats 16000000
set_option maxRecDepth 100000
set_option linter.unusedSimpArgs false

-- leans on 14 18 38 47 40
def witL (all : Bool) (p : ByteArray → Option Bool) : List ByteArray → Option (ByteArray × Bool × Int)
 | [] => some (⟨#[]⟩, false, 0)
 | s :: l => (p s).bind fun b => if b = all then witL all p l else some (s, true, 0)
def evaluate_Witness.f (k : Nat) (ds : List S73) (ts : List Int) (id : Int) (fs : List S62) (a0 : Int) (a1 : ByteArray) (l2 : List S92) (a3 : Int) (a4 : Int) (l5 : List S32) (co m : Int) : Option (ByteArray × Bool × Int) :=
 (loadG k ds ts id fs (⟨a0, a1, l2, a3, a4, l5⟩ : S32)).bind fun e => if e = 1 then some (⟨#[]⟩, false, 1) else if ts.length < 4398046511104 then (if insideB ts id co m = true then (if a0 = 8 then (if e = 0 then (evaluate_individuals.f k ds ts id a1).bind fun ns => (if 0 < l5.length ∧ ns.1.length < 4398046511104 then witL true (fun s => truthG ds ts id fs k (rd_T32 l5 0) [s] co m) ns.1 else none) else some (⟨#[]⟩, false, e)) else if a0 = 9 then (if e = 0 then (evaluate_individuals.f k ds ts id a1).bind fun ns => (if 0 < l5.length ∧ ns.1.length < 4398046511104 then witL false (fun s => truthG ds ts id fs k (rd_T32 l5 0) [s] co m) ns.1 else none) else some (⟨#[]⟩, false, e)) else some (⟨#[]⟩, false, 1)) else some (⟨#[]⟩, false, 1)) else none
theorem C_one (w : World) (s : ByteArray) (t : Nat) : Kd.C Kd.string (w.alloc (.cells #[.string s] t)) (some ⟨w.heap.size, 0, none⟩) [s].length [s] := by
 refine ⟨rfl, by simp, fun _ => ⟨_, rfl, fun j p hp => ⟨[.string p], rfl, rfl, fun i u hu => ?_⟩⟩⟩
 have hi : i = 0 := by have := (List.getElem?_eq_some_iff.1 hu).1; simp at this; omega
 have hj : j = 0 := by have := (List.getElem?_eq_some_iff.1 hp).1; simp at this; omega
 subst hi hj
 obtain rfl : s = p := by simpa using hp
 obtain rfl : Value.string s = u := by simpa using hu
 exact cell_one_new w (.string s) t 0 _ rfl
theorem witness_good8 (k : Nat) (A0 : Option Addr) (c0 : Nat) (ds : List S73) (A1 : Option Addr) (c1 : Nat) (ts : List Int) (id : Int) (A3 : Option Addr) (c3 : Nat) (fs : List S62) (a1 : ByteArray) (A2 : Option Addr) (c2 : Nat) (l2 : List S92) (a3 : Int) (a4 : Int) (A5 : Option Addr) (c5 : Nat) (l5 : List S32) (co m : Int) (ns : List ByteArray) (ok : Bool) (rs : ByteArray) (rb : Bool) (ri : Int) (w : World) (hr0 : Kd.C k73 w A0 ds.length ds) (hc0 : ds.length ≤ c0) (hr1 : Kd.C (Kd.int .i64) w A1 ts.length ts) (hc1 : ts.length ≤ c1) (hr3 : Kd.C k62 w A3 fs.length fs) (hc3 : fs.length ≤ c3) (hr2 : Kd.C k92 w A2 l2.length l2) (hc2 : l2.length ≤ c2) (hr5 : Kd.C k32 w A5 l5.length l5) (hc5 : l5.length ≤ c5) (hld : loadG k ds ts id fs (⟨8, a1, l2, a3, a4, l5⟩ : S32) = some 0) (htl : ts.length < 4398046511104) (hin : insideB ts id co m = true) (hns : evaluate_individuals.f k ds ts id a1 = some (ns, ok)) (hc : 0 < l5.length ∧ ns.length < 4398046511104) (h : witL true (fun s => truthG ds ts id fs k (rd_T32 l5 0) [s] co m) ns = some (rs, rb, ri)) (htb : Tb w) :
  Calls Tryd.prog 27 #[.agg #[.slice A0 ds.length c0, .slice A1 ts.length c1, .int .i64 id, .slice A3 fs.length c3], .agg #[.int .i64 8, .string a1, .slice A2 l2.length c2, .int .i64 a3, .int .i64 a4, .slice A5 l5.length c5], .int .i64 co, .int .i64 m] w fun e w' => e = .returned (.tuple #[.string rs, .bool rb, .int .i64 ri]) ∧ Below w.heap.size w w' := by
 have hu25 := Tryd.underlying25
 have hu28 := Tryd.underlying28
 have hu32 := Tryd.underlying32
 have hu84 := Tryd.underlying84
 have HR0 := mk_ hr0
 have HR1 := mk_ hr1
 have HR2 := mk_ hr2
 have HR3 := mk_ hr3
 have HR5 := mk_ hr5
 have HTB := mk_ htb
 have HL := mk_ (And.intro hc0 (And.intro hc1 (And.intro hc2 hc5)))
 clear hr0 hr1 hr2 hr3 hr5 hc0 hc1 hc2 hc3 hc5 htb
 have HB0 := mk_ (Below.refl w.heap.size w)
 have T1 : True := trivial
 have T2 : True := trivial
 have T3 : True := trivial
 have T4 : True := trivial
 have T5 : True := trivial
 have T6 : True := trivial
 have T7 : True := trivial
 have T8 : True := trivial
 have HLD := mk_ hld
 have HTL := mk_ htl
 have HIN := mk_ hin
 have HNS := mk_ hns
 have HC := mk_ hc
 have HW := mk_ h
 have HNE : Aside0 (¬ (0 : Int) = 1) := ⟨by decide⟩
 clear hld htl hin hns hc h
 go_enter Tryd.func27, Tryd.ntmps27
 go_upto_region 6 with (first
  | (clear T1; (with_reducible refine gate_dst (N := 4) rfl ?_); refine bx_ 4 #[.slice A0 ds.length c0, .slice A1 ts.length c1, .int .i64 id, .slice A3 fs.length c3] 28 ?_; intro g1 hg w1 hbox hb; have HB1 := mk_ (below_step HB0.out hb); have BW1 := mk_ hbox; clear hb hbox hg HB0)
  | (clear T2; (with_reducible refine gate_dst (N := 5) rfl ?_); refine bx_ 5 #[.int .i64 8, .string a1, .slice A2 l2.length c2, .int .i64 a3, .int .i64 a4, .slice A5 l5.length c5] 32 ?_; intro g2 hg w2 hbox hb; have HB2 := mk_ (below_step HB1.out hb); have BW2 := mk_ (blk_below BW1.out hb); have BF2 := mk_ hbox; clear hb hbox hg HB1 BW1; have x0 : w2.cell? ⟨g1, 0, none⟩ = some (.slice A0 ds.length c0) := (blk_cell BW2.out 0).trans rfl; have x1 : w2.cell? ⟨g1, 1, none⟩ = some (.slice A1 ts.length c1) := (blk_cell BW2.out 1).trans rfl; have x2 : w2.cell? ⟨g1, 2, none⟩ = some (.int .i64 id) := (blk_cell BW2.out 2).trans rfl; have x3 : w2.cell? ⟨g1, 3, none⟩ = some (.slice A3 fs.length c3) := (blk_cell BW2.out 3).trans rfl; have y0 : w2.cell? ⟨g2, 0, none⟩ = some (.int .i64 8) := (blk_cell BF2.out 0).trans rfl; have y1 : w2.cell? ⟨g2, 1, none⟩ = some (.string a1) := (blk_cell BF2.out 1).trans rfl; have y2 : w2.cell? ⟨g2, 2, none⟩ = some (.slice A2 l2.length c2) := (blk_cell BF2.out 2).trans rfl; have y3 : w2.cell? ⟨g2, 3, none⟩ = some (.int .i64 a3) := (blk_cell BF2.out 3).trans rfl; have y4 : w2.cell? ⟨g2, 4, none⟩ = some (.int .i64 a4) := (blk_cell BF2.out 4).trans rfl; have y5 : w2.cell? ⟨g2, 5, none⟩ = some (.slice A5 l5.length c5) := (blk_cell BF2.out 5).trans rfl)
  | (clear T3; go_at_call 38; refine (load_any k A0 c0 ds A1 c1 ts id A3 c3 fs (⟨8, a1, l2, a3, a4, l5⟩ : S32) A2 c2 A5 c5 0 _ (Kd.C_below HR0.out HB2.out) HL.out.1 (Kd.C_below HR1.out HB2.out) HL.out.2.1 (Kd.C_below HR3.out HB2.out) (Kd.C_below HR2.out HB2.out) HL.out.2.2.1 (Kd.C_below HR5.out HB2.out) HL.out.2.2.2 HLD.out).mono ?_; rintro e w3 ⟨hcase, hb⟩; obtain ⟨_, b, rfl, hgb, hmd⟩ := hcase.resolve_left (fun h => HNE.out h.1); have HB3 := mk_ (below_step HB2.out hb); have BF3 := mk_ (blk_below BF2.out hb); have HMD := mk_ hmd; clear hb HB2 hcase hgb hmd; have y'0 : w3.cell? ⟨g2, 0, none⟩ = some (.int .i64 8) := (blk_cell BF3.out 0).trans rfl; have y'1 : w3.cell? ⟨g2, 1, none⟩ = some (.string a1) := (blk_cell BF3.out 1).trans rfl; have y'2 : w3.cell? ⟨g2, 2, none⟩ = some (.slice A2 l2.length c2) := (blk_cell BF3.out 2).trans rfl; have y'3 : w3.cell? ⟨g2, 3, none⟩ = some (.int .i64 a3) := (blk_cell BF3.out 3).trans rfl; have y'4 : w3.cell? ⟨g2, 4, none⟩ = some (.int .i64 a4) := (blk_cell BF3.out 4).trans rfl; have y'5 : w3.cell? ⟨g2, 5, none⟩ = some (.slice A5 l5.length c5) := (blk_cell BF3.out 5).trans rfl)
  | (clear T4; go_at_call 39; refine (inside_any b ds ts id fs co m _ HMD.out HTL.out).mono ?_; rintro e w4 ⟨rfl, rfl⟩; rw [HIN.out]))
 obtain ⟨M0, d0, M1, d1, mb, nm, hm, hm0, hm1, hm2, hm3, _⟩ := HMD.out
 refine start_ (n := 12) (S := fun w' => w'.cell? ⟨b, 0, none⟩ = some (.slice M0 ds.length d0) ∧ w'.cell? ⟨b, 1, none⟩ = some (.slice M1 ts.length d1) ∧ w'.cell? ⟨b, 2, none⟩ = some (.int .i64 id) ∧ w'.cell? ⟨b, 3, none⟩ = some (.map (some mb)) ∧ w'.cell? ⟨g2, 1, none⟩ = some (.string a1)) (ds := [6]) (Array.replicate 12 false) (by kernel_rfl) rfl rfl ⟨(blk_cell (blk_drew hm) 0).trans rfl, (blk_cell (blk_drew hm) 1).trans rfl, (blk_cell (blk_drew hm) 2).trans rfl, (blk_cell (blk_drew hm) 3).trans rfl, (blk_cell (blk_drew BF3.out) 1).trans rfl⟩ (fun hHeld => ?_)
 refine pu_ 0 (some 46) ?_
 refine pu_ 1 (some 47) ?_
 refine pu_ 2 (some 48) ?_
 refine tk_ 3 (some 49) hHeld ?_
 refine pu_ 4 (some 50) ?_
 refine tk_ 5 (some 51) hHeld ?_
 refine la_ 6 (some 52) (fun K hK => ?_)
 refine go_ Tryd.func47 #[.agg #[.slice M0 ds.length d0, .slice M1 ts.length d1, .int .i64 id], .string a1] ?_
 refine (evaluate_individuals.calls k (fun k_ => k_ < w4.heap.size) M0 d0 ds M1 d1 ts id a1 ns ok _ (Kd.V_mk hm0 (Kd.F_below (Kd.C_F k73_heap hm2) (below_drew (Below.refl _ _)))) (Kd.C_below hm3 (below_drew (Below.refl _ _))) hm1 HNS.out).mono ?_
 rintro e w6 ⟨v, rfl, hv, hb⟩
 obtain ⟨AN, cN, rfl, hlN, hfN⟩ := hv
 refine ⟨_, rfl, ?_⟩
 have hb3 : Below w4.heap.size w4 w6 := (below_drew (Below.refl _ _)).trans hb
 have HB6 := mk_ (below_step HB3.out hb3)
 have BF6 := mk_ (blk_below BF3.out hb3)
 have HMD6 := mk_ (Md_below HMD.out hb3)
 have HN6 := mk_ (Kd.F_now hfN)
 clear hb hb3 hlN hfN
 refine hK.out _ _ ?_
 clear hK K
 refine no_ (N := some 52) ?_
 refine pu_ 7 (some 45) ?_
 refine pu_ 8 (some 53) ?_
 refine pu_ 9 (some 54) ?_
 refine pu_ 10 (some 13) ?_
 refine pu_ 11 (some 14) ?_
 refine done_ (by kernel_rfl) ?_
 clear hm hm2 hm3
 clear y0 y'0
 clear y1 y'1
 clear y2 y'2
 clear y3 y'3
 clear y4 y'4
 clear y5 y'5
 clear x0
 clear x1
 clear x2
 clear x3
 go_wp2
 go_loopw [57] (fun v wr => ∃ (i : Int), v = .int .i64 i ∧ Aside0 (0 ≤ i) ∧ Aside0 (i ≤ (ns.length : Int)) ∧ Aside0 (witL true (fun s => truthG ds ts id fs k (rd_T32 l5 0) [s] co m) (ns.drop i.toNat) = some (rs, rb, ri)) ∧ Aside0 (Below w6.heap.size w6 wr)) (fun v _ => ns.length - (intOf v).toNat)
 case atStart => exact ⟨0, rfl, ⟨Int.le_refl _⟩, ⟨by omega⟩, HW, ⟨by repeat (first | exact Below.refl _ _ | apply below_drew)⟩⟩
 case round =>
  clear HW
  obtain ⟨i, rfl, H0, HK, HW, HBW⟩ := hrel
  have BFr := mk_ (blk_below BF6.out HBW.out)
  have HMr := mk_ (Md_below HMD6.out HBW.out)
  have HBr := mk_ (below_step HB6.out HBW.out)
  by_cases hlt : i < (ns.length : Int)
  ·have h0 := H0.out
   have hk : i.toNat < ns.length := by omega
   obtain ⟨an, e_an, hnm⟩ := Kd.at_string (Kd.C_below HN6.out HBW.out) i h0 hlt
   subst e_an
   have p0 : (0 ≤ i) = True := eq_true h0
   have p1 : (i < (ns.length : Int)) = True := eq_true hlt
   have hw := HW.out
   rw [List.drop_eq_getElem_cons hk, witL] at hw
   have es : rdOf ByteArray.empty ns i = ns[i.toNat] := by unfold rdOf; rw [List.getD_eq_getElem?_getD, List.getElem?_eq_getElem hk]; rfl
   rw [← es] at hw
   obtain ⟨s, hs⟩ : ∃ s, s = rdOf ByteArray.empty ns i := ⟨_, rfl⟩
   rw [← hs] at hw hnm
   clear hs es
   have e1 : wrap64 (i + 1) = i + 1 := by have := HC.out; unfold wrap64; omega
   have e2 : (i + 1).toNat = i.toNat + 1 := by omega
   obtain ⟨q, hq, hw⟩ := Option.bind_eq_some_iff.1 hw
   obtain ⟨ad, X2, e2_, X5, e5, e_ad, hk0, hk1, hk2, hk3, hk4, hk5, hl2, hg2, hl5, hg5⟩ := at_T32 (Kd.C_below HR5.out HBr.out) 0 (Int.le_refl _) (by have := HC.out; omega)
   subst e_ad
   obtain ⟨x, hxe⟩ : ∃ x, x = rd_T32 l5 0 := ⟨_, rfl⟩
   rw [← hxe] at hk0 hk1 hk2 hk3 hk4 hk5 hl2 hg2 hl5 hg5 hq
   clear hxe
   have ea : ad.add ((0 : Int).toNat * 6) = ad := by cases ad; rfl
   rw [ea] at hk0 hk1 hk2 hk3 hk4 hk5
   clear ea
   have HQ := mk_ hq
   have HG2 := mk_ hg2
   have HG5 := mk_ hg5
   have HLX := mk_ (And.intro hl2 hl5)
   clear hq hg2 hg5 hl2 hl5 HW HK
   have hlp : 0 < l5.length := HC.out.1
   go_upto_region 10 with (fail)
   have f0 : wr.cell? ⟨g2, 5, none⟩ = some (.slice (some ad) l5.length c5) := (blk_cell BFr.out 5).trans rfl
   have f1 : wr.cell? ⟨g2, 0, none⟩ = some (.int .i64 8) := (blk_cell BFr.out 0).trans rfl
   have f2 : wr.cell? ad = some (.int .i64 x.f0) := hk0
   have f3 : wr.cell? ⟨ad.block, ad.off + 1, none⟩ = some (.string x.f1) := hk1
   have f4 : wr.cell? ⟨ad.block, ad.off + 2, none⟩ = some (.slice X2 x.f2.length e2_) := hk2
   have f5 : wr.cell? ⟨ad.block, ad.off + 3, none⟩ = some (.int .i64 x.f3) := hk3
   have f6 : wr.cell? ⟨ad.block, ad.off + 4, none⟩ = some (.int .i64 x.f4) := hk4
   have f7 : wr.cell? ⟨ad.block, ad.off + 5, none⟩ = some (.slice X5 x.f5.length e5) := hk5
   refine start_ (n := 14) (S := fun w' => w'.cell? ⟨g2, 5, none⟩ = some (.slice (some ad) l5.length c5) ∧ w'.cell? ⟨g2, 0, none⟩ = some (.int .i64 8) ∧ w'.cell? ad = some (.int .i64 x.f0) ∧ w'.cell? ⟨ad.block, ad.off + 1, none⟩ = some (.string x.f1) ∧ w'.cell? ⟨ad.block, ad.off + 2, none⟩ = some (.slice X2 x.f2.length e2_) ∧ w'.cell? ⟨ad.block, ad.off + 3, none⟩ = some (.int .i64 x.f3) ∧ w'.cell? ⟨ad.block, ad.off + 4, none⟩ = some (.int .i64 x.f4) ∧ w'.cell? ⟨ad.block, ad.off + 5, none⟩ = some (.slice X5 x.f5.length e5)) (ds := []) (Array.replicate 14 false) (by kernel_rfl) rfl rfl ⟨f0, f1, f2, f3, f4, f5, f6, f7⟩ (fun hHeld => ?_)
   refine pu_ 0 (some 61) ?_
   refine pu_ 1 (some 62) ?_
   refine tk_ 2 (some 63) hHeld ?_
   refine pu_ 3 (some 64) ?_
   refine tk_ 4 (some 65) hHeld ?_
   refine pu_ 5 (some 66) ?_
   refine pu_ 7 (some 68) ?_
   refine pu_ 8 (some 69) ?_
   refine pu_ 10 (some 71) ?_
   refine tk_ 11 (some 72) hHeld ?_
   refine pu_ 12 (some 73) ?_
   refine on_ 6 (some 67) (fun K hK => ?_)
   refine value_ (w1 := ?_) (v := ?_) (by rfl) rfl ?_ ?_
   rotate_left 2
   ·go_simp
    constructor
    ·rfl
    ·rfl
   have HZ := mk_ (below_alloc (below_drew (Below.refl wr.heap.size wr)) (.cells #[.string s] 9))
   refine hK.out _ _ ⟨((HZ.out.cell (p := ⟨g2, 5, none⟩) (World.block_lt_of_cell? _ _ f0)).trans f0), ((HZ.out.cell (p := ⟨g2, 0, none⟩) (World.block_lt_of_cell? _ _ f1)).trans f1), ((HZ.out.cell (p := ad) (World.block_lt_of_cell? _ _ f2)).trans f2), ((HZ.out.cell (p := ⟨ad.block, ad.off + 1, none⟩) (World.block_lt_of_cell? _ _ f3)).trans f3), ((HZ.out.cell (p := ⟨ad.block, ad.off + 2, none⟩) (World.block_lt_of_cell? _ _ f4)).trans f4), ((HZ.out.cell (p := ⟨ad.block, ad.off + 3, none⟩) (World.block_lt_of_cell? _ _ f5)).trans f5), ((HZ.out.cell (p := ⟨ad.block, ad.off + 4, none⟩) (World.block_lt_of_cell? _ _ f6)).trans f6), ((HZ.out.cell (p := ⟨ad.block, ad.off + 5, none⟩) (World.block_lt_of_cell? _ _ f7)).trans f7)⟩ (fun hHeld => ?_)
   clear hK K
   refine no_ (N := some 67) ?_
   refine on_ 9 (some 70) (fun K hK => ?_)
   refine go_ Tryd.func40 #[.pointer (some ⟨b, 0, none⟩), .agg #[.int .i64 x.f0, .string x.f1, .slice X2 x.f2.length e2_, .int .i64 x.f3, .int .i64 x.f4, .slice X5 x.f5.length e5], .slice (some ⟨wr.heap.size, 0, none⟩) 1 1, .int .i64 co, .int .i64 m] ?_
   refine (truth_any ds ts id fs k b x X2 e2_ X5 e5 [s] (some ⟨wr.heap.size, 0, none⟩) 1 co m q _ (Md_below HMr.out HZ.out) (tb_on HTB.out (below_step HBr.out HZ.out)) (Kd.C_below HG2.out HZ.out) HLX.out.1 (Kd.C_below HG5.out HZ.out) HLX.out.2 (C_one _ s 9) (Nat.le_refl _) HQ.out).mono ?_
   rintro e w7 ⟨rfl, hb⟩
   refine ⟨_, rfl, ?_⟩
   have HB7 := mk_ (HZ.out.trans (hb.mono HZ.out.size))
   clear hb
   refine hK.out _ _ ⟨((HB7.out.cell (p := ⟨g2, 5, none⟩) (World.block_lt_of_cell? _ _ f0)).trans f0), ((HB7.out.cell (p := ⟨g2, 0, none⟩) (World.block_lt_of_cell? _ _ f1)).trans f1), ((HB7.out.cell (p := ad) (World.block_lt_of_cell? _ _ f2)).trans f2), ((HB7.out.cell (p := ⟨ad.block, ad.off + 1, none⟩) (World.block_lt_of_cell? _ _ f3)).trans f3), ((HB7.out.cell (p := ⟨ad.block, ad.off + 2, none⟩) (World.block_lt_of_cell? _ _ f4)).trans f4), ((HB7.out.cell (p := ⟨ad.block, ad.off + 3, none⟩) (World.block_lt_of_cell? _ _ f5)).trans f5), ((HB7.out.cell (p := ⟨ad.block, ad.off + 4, none⟩) (World.block_lt_of_cell? _ _ f6)).trans f6), ((HB7.out.cell (p := ⟨ad.block, ad.off + 5, none⟩) (World.block_lt_of_cell? _ _ f7)).trans f7)⟩ (fun hHeld => ?_)
   clear hK K
   refine no_ (N := some 70) ?_
   refine pu_ 13 (some 74) ?_
   refine done_ (by kernel_rfl) ?_
   cases q
   ·rw [if_neg (by decide)] at hw
    simp only [Option.some.injEq, Prod.mk.injEq] at hw
    obtain ⟨rfl, rfl, rfl⟩ := hw
    go_wp2
    go_ret3
    exact ⟨rfl, by have := below_step HBr.out HB7.out; repeat (first | exact this | apply below_drew)⟩
   ·rw [if_pos rfl] at hw
    have HW := mk_ hw
    clear hw
    go_wp2
    go_roundw
    case rel => exact ⟨i + 1, by rw [e1], ⟨by omega⟩, ⟨by omega⟩, ⟨by rw [e2]; exact HW.out⟩, ⟨by have := HBW.out.trans (HB7.out.mono HBW.out.size); repeat (first | exact this | apply below_drew)⟩⟩
    case measure => rw [e1]; simp only [intOf]; omega
  ·obtain rfl : i = (ns.length : Int) := by have := HK.out; omega
   have hw := HW.out
   rw [Int.toNat_natCast, List.drop_length, witL] at hw
   simp only [Option.some.injEq, Prod.mk.injEq] at hw
   obtain ⟨rfl, rfl, rfl⟩ := hw
   clear HW
   go_wp2
   go_ret3
   exact ⟨rfl, HBr.out⟩
theorem witness_good9 (k : Nat) (A0 : Option Addr) (c0 : Nat) (ds : List S73) (A1 : Option Addr) (c1 : Nat) (ts : List Int) (id : Int) (A3 : Option Addr) (c3 : Nat) (fs : List S62) (a1 : ByteArray) (A2 : Option Addr) (c2 : Nat) (l2 : List S92) (a3 : Int) (a4 : Int) (A5 : Option Addr) (c5 : Nat) (l5 : List S32) (co m : Int) (ns : List ByteArray) (ok : Bool) (rs : ByteArray) (rb : Bool) (ri : Int) (w : World) (hr0 : Kd.C k73 w A0 ds.length ds) (hc0 : ds.length ≤ c0) (hr1 : Kd.C (Kd.int .i64) w A1 ts.length ts) (hc1 : ts.length ≤ c1) (hr3 : Kd.C k62 w A3 fs.length fs) (hc3 : fs.length ≤ c3) (hr2 : Kd.C k92 w A2 l2.length l2) (hc2 : l2.length ≤ c2) (hr5 : Kd.C k32 w A5 l5.length l5) (hc5 : l5.length ≤ c5) (hld : loadG k ds ts id fs (⟨9, a1, l2, a3, a4, l5⟩ : S32) = some 0) (htl : ts.length < 4398046511104) (hin : insideB ts id co m = true) (hns : evaluate_individuals.f k ds ts id a1 = some (ns, ok)) (hc : 0 < l5.length ∧ ns.length < 4398046511104) (h : witL false (fun s => truthG ds ts id fs k (rd_T32 l5 0) [s] co m) ns = some (rs, rb, ri)) (htb : Tb w) :
  Calls Tryd.prog 27 #[.agg #[.slice A0 ds.length c0, .slice A1 ts.length c1, .int .i64 id, .slice A3 fs.length c3], .agg #[.int .i64 9, .string a1, .slice A2 l2.length c2, .int .i64 a3, .int .i64 a4, .slice A5 l5.length c5], .int .i64 co, .int .i64 m] w fun e w' => e = .returned (.tuple #[.string rs, .bool rb, .int .i64 ri]) ∧ Below w.heap.size w w' := by
 have hu25 := Tryd.underlying25
 have hu28 := Tryd.underlying28
 have hu32 := Tryd.underlying32
 have hu84 := Tryd.underlying84
 have HR0 := mk_ hr0
 have HR1 := mk_ hr1
 have HR2 := mk_ hr2
 have HR3 := mk_ hr3
 have HR5 := mk_ hr5
 have HTB := mk_ htb
 have HL := mk_ (And.intro hc0 (And.intro hc1 (And.intro hc2 hc5)))
 clear hr0 hr1 hr2 hr3 hr5 hc0 hc1 hc2 hc3 hc5 htb
 have HB0 := mk_ (Below.refl w.heap.size w)
 have T1 : True := trivial
 have T2 : True := trivial
 have T3 : True := trivial
 have T4 : True := trivial
 have T5 : True := trivial
 have T6 : True := trivial
 have T7 : True := trivial
 have T8 : True := trivial
 have HLD := mk_ hld
 have HTL := mk_ htl
 have HIN := mk_ hin
 have HNS := mk_ hns
 have HC := mk_ hc
 have HW := mk_ h
 have HNE : Aside0 (¬ (0 : Int) = 1) := ⟨by decide⟩
 clear hld htl hin hns hc h
 go_enter Tryd.func27, Tryd.ntmps27
 go_upto_region 6 with (first
  | (clear T1; (with_reducible refine gate_dst (N := 4) rfl ?_); refine bx_ 4 #[.slice A0 ds.length c0, .slice A1 ts.length c1, .int .i64 id, .slice A3 fs.length c3] 28 ?_; intro g1 hg w1 hbox hb; have HB1 := mk_ (below_step HB0.out hb); have BW1 := mk_ hbox; clear hb hbox hg HB0)
  | (clear T2; (with_reducible refine gate_dst (N := 5) rfl ?_); refine bx_ 5 #[.int .i64 9, .string a1, .slice A2 l2.length c2, .int .i64 a3, .int .i64 a4, .slice A5 l5.length c5] 32 ?_; intro g2 hg w2 hbox hb; have HB2 := mk_ (below_step HB1.out hb); have BW2 := mk_ (blk_below BW1.out hb); have BF2 := mk_ hbox; clear hb hbox hg HB1 BW1; have x0 : w2.cell? ⟨g1, 0, none⟩ = some (.slice A0 ds.length c0) := (blk_cell BW2.out 0).trans rfl; have x1 : w2.cell? ⟨g1, 1, none⟩ = some (.slice A1 ts.length c1) := (blk_cell BW2.out 1).trans rfl; have x2 : w2.cell? ⟨g1, 2, none⟩ = some (.int .i64 id) := (blk_cell BW2.out 2).trans rfl; have x3 : w2.cell? ⟨g1, 3, none⟩ = some (.slice A3 fs.length c3) := (blk_cell BW2.out 3).trans rfl; have y0 : w2.cell? ⟨g2, 0, none⟩ = some (.int .i64 9) := (blk_cell BF2.out 0).trans rfl; have y1 : w2.cell? ⟨g2, 1, none⟩ = some (.string a1) := (blk_cell BF2.out 1).trans rfl; have y2 : w2.cell? ⟨g2, 2, none⟩ = some (.slice A2 l2.length c2) := (blk_cell BF2.out 2).trans rfl; have y3 : w2.cell? ⟨g2, 3, none⟩ = some (.int .i64 a3) := (blk_cell BF2.out 3).trans rfl; have y4 : w2.cell? ⟨g2, 4, none⟩ = some (.int .i64 a4) := (blk_cell BF2.out 4).trans rfl; have y5 : w2.cell? ⟨g2, 5, none⟩ = some (.slice A5 l5.length c5) := (blk_cell BF2.out 5).trans rfl)
  | (clear T3; go_at_call 38; refine (load_any k A0 c0 ds A1 c1 ts id A3 c3 fs (⟨9, a1, l2, a3, a4, l5⟩ : S32) A2 c2 A5 c5 0 _ (Kd.C_below HR0.out HB2.out) HL.out.1 (Kd.C_below HR1.out HB2.out) HL.out.2.1 (Kd.C_below HR3.out HB2.out) (Kd.C_below HR2.out HB2.out) HL.out.2.2.1 (Kd.C_below HR5.out HB2.out) HL.out.2.2.2 HLD.out).mono ?_; rintro e w3 ⟨hcase, hb⟩; obtain ⟨_, b, rfl, hgb, hmd⟩ := hcase.resolve_left (fun h => HNE.out h.1); have HB3 := mk_ (below_step HB2.out hb); have BF3 := mk_ (blk_below BF2.out hb); have HMD := mk_ hmd; clear hb HB2 hcase hgb hmd; have y'0 : w3.cell? ⟨g2, 0, none⟩ = some (.int .i64 9) := (blk_cell BF3.out 0).trans rfl; have y'1 : w3.cell? ⟨g2, 1, none⟩ = some (.string a1) := (blk_cell BF3.out 1).trans rfl; have y'2 : w3.cell? ⟨g2, 2, none⟩ = some (.slice A2 l2.length c2) := (blk_cell BF3.out 2).trans rfl; have y'3 : w3.cell? ⟨g2, 3, none⟩ = some (.int .i64 a3) := (blk_cell BF3.out 3).trans rfl; have y'4 : w3.cell? ⟨g2, 4, none⟩ = some (.int .i64 a4) := (blk_cell BF3.out 4).trans rfl; have y'5 : w3.cell? ⟨g2, 5, none⟩ = some (.slice A5 l5.length c5) := (blk_cell BF3.out 5).trans rfl)
  | (clear T4; go_at_call 39; refine (inside_any b ds ts id fs co m _ HMD.out HTL.out).mono ?_; rintro e w4 ⟨rfl, rfl⟩; rw [HIN.out]))
 obtain ⟨M0, d0, M1, d1, mb, nm, hm, hm0, hm1, hm2, hm3, _⟩ := HMD.out
 refine start_ (n := 12) (S := fun w' => w'.cell? ⟨b, 0, none⟩ = some (.slice M0 ds.length d0) ∧ w'.cell? ⟨b, 1, none⟩ = some (.slice M1 ts.length d1) ∧ w'.cell? ⟨b, 2, none⟩ = some (.int .i64 id) ∧ w'.cell? ⟨b, 3, none⟩ = some (.map (some mb)) ∧ w'.cell? ⟨g2, 1, none⟩ = some (.string a1)) (ds := [6]) (Array.replicate 12 false) (by kernel_rfl) rfl rfl ⟨(blk_cell (blk_drew hm) 0).trans rfl, (blk_cell (blk_drew hm) 1).trans rfl, (blk_cell (blk_drew hm) 2).trans rfl, (blk_cell (blk_drew hm) 3).trans rfl, (blk_cell (blk_drew BF3.out) 1).trans rfl⟩ (fun hHeld => ?_)
 refine pu_ 0 (some 46) ?_
 refine pu_ 1 (some 47) ?_
 refine pu_ 2 (some 48) ?_
 refine tk_ 3 (some 49) hHeld ?_
 refine pu_ 4 (some 50) ?_
 refine tk_ 5 (some 51) hHeld ?_
 refine la_ 6 (some 52) (fun K hK => ?_)
 refine go_ Tryd.func47 #[.agg #[.slice M0 ds.length d0, .slice M1 ts.length d1, .int .i64 id], .string a1] ?_
 refine (evaluate_individuals.calls k (fun k_ => k_ < w4.heap.size) M0 d0 ds M1 d1 ts id a1 ns ok _ (Kd.V_mk hm0 (Kd.F_below (Kd.C_F k73_heap hm2) (below_drew (Below.refl _ _)))) (Kd.C_below hm3 (below_drew (Below.refl _ _))) hm1 HNS.out).mono ?_
 rintro e w6 ⟨v, rfl, hv, hb⟩
 obtain ⟨AN, cN, rfl, hlN, hfN⟩ := hv
 refine ⟨_, rfl, ?_⟩
 have hb3 : Below w4.heap.size w4 w6 := (below_drew (Below.refl _ _)).trans hb
 have HB6 := mk_ (below_step HB3.out hb3)
 have BF6 := mk_ (blk_below BF3.out hb3)
 have HMD6 := mk_ (Md_below HMD.out hb3)
 have HN6 := mk_ (Kd.F_now hfN)
 clear hb hb3 hlN hfN
 refine hK.out _ _ ?_
 clear hK K
 refine no_ (N := some 52) ?_
 refine pu_ 7 (some 45) ?_
 refine pu_ 8 (some 53) ?_
 refine pu_ 9 (some 54) ?_
 refine pu_ 10 (some 13) ?_
 refine pu_ 11 (some 14) ?_
 refine done_ (by kernel_rfl) ?_
 clear hm hm2 hm3
 clear y0 y'0
 clear y1 y'1
 clear y2 y'2
 clear y3 y'3
 clear y4 y'4
 clear y5 y'5
 clear x0
 clear x1
 clear x2
 clear x3
 go_wp2
 go_loopw [57] (fun v wr => ∃ (i : Int), v = .int .i64 i ∧ Aside0 (0 ≤ i) ∧ Aside0 (i ≤ (ns.length : Int)) ∧ Aside0 (witL false (fun s => truthG ds ts id fs k (rd_T32 l5 0) [s] co m) (ns.drop i.toNat) = some (rs, rb, ri)) ∧ Aside0 (Below w6.heap.size w6 wr)) (fun v _ => ns.length - (intOf v).toNat)
 case atStart => exact ⟨0, rfl, ⟨Int.le_refl _⟩, ⟨by omega⟩, HW, ⟨by repeat (first | exact Below.refl _ _ | apply below_drew)⟩⟩
 case round =>
  clear HW
  obtain ⟨i, rfl, H0, HK, HW, HBW⟩ := hrel
  have BFr := mk_ (blk_below BF6.out HBW.out)
  have HMr := mk_ (Md_below HMD6.out HBW.out)
  have HBr := mk_ (below_step HB6.out HBW.out)
  by_cases hlt : i < (ns.length : Int)
  ·have h0 := H0.out
   have hk : i.toNat < ns.length := by omega
   obtain ⟨an, e_an, hnm⟩ := Kd.at_string (Kd.C_below HN6.out HBW.out) i h0 hlt
   subst e_an
   have p0 : (0 ≤ i) = True := eq_true h0
   have p1 : (i < (ns.length : Int)) = True := eq_true hlt
   have hw := HW.out
   rw [List.drop_eq_getElem_cons hk, witL] at hw
   have es : rdOf ByteArray.empty ns i = ns[i.toNat] := by unfold rdOf; rw [List.getD_eq_getElem?_getD, List.getElem?_eq_getElem hk]; rfl
   rw [← es] at hw
   obtain ⟨s, hs⟩ : ∃ s, s = rdOf ByteArray.empty ns i := ⟨_, rfl⟩
   rw [← hs] at hw hnm
   clear hs es
   have e1 : wrap64 (i + 1) = i + 1 := by have := HC.out; unfold wrap64; omega
   have e2 : (i + 1).toNat = i.toNat + 1 := by omega
   obtain ⟨q, hq, hw⟩ := Option.bind_eq_some_iff.1 hw
   obtain ⟨ad, X2, e2_, X5, e5, e_ad, hk0, hk1, hk2, hk3, hk4, hk5, hl2, hg2, hl5, hg5⟩ := at_T32 (Kd.C_below HR5.out HBr.out) 0 (Int.le_refl _) (by have := HC.out; omega)
   subst e_ad
   obtain ⟨x, hxe⟩ : ∃ x, x = rd_T32 l5 0 := ⟨_, rfl⟩
   rw [← hxe] at hk0 hk1 hk2 hk3 hk4 hk5 hl2 hg2 hl5 hg5 hq
   clear hxe
   have ea : ad.add ((0 : Int).toNat * 6) = ad := by cases ad; rfl
   rw [ea] at hk0 hk1 hk2 hk3 hk4 hk5
   clear ea
   have HQ := mk_ hq
   have HG2 := mk_ hg2
   have HG5 := mk_ hg5
   have HLX := mk_ (And.intro hl2 hl5)
   clear hq hg2 hg5 hl2 hl5 HW HK
   have hlp : 0 < l5.length := HC.out.1
   go_upto_region 10 with (fail)
   have f0 : wr.cell? ⟨g2, 5, none⟩ = some (.slice (some ad) l5.length c5) := (blk_cell BFr.out 5).trans rfl
   have f1 : wr.cell? ⟨g2, 0, none⟩ = some (.int .i64 9) := (blk_cell BFr.out 0).trans rfl
   have f2 : wr.cell? ad = some (.int .i64 x.f0) := hk0
   have f3 : wr.cell? ⟨ad.block, ad.off + 1, none⟩ = some (.string x.f1) := hk1
   have f4 : wr.cell? ⟨ad.block, ad.off + 2, none⟩ = some (.slice X2 x.f2.length e2_) := hk2
   have f5 : wr.cell? ⟨ad.block, ad.off + 3, none⟩ = some (.int .i64 x.f3) := hk3
   have f6 : wr.cell? ⟨ad.block, ad.off + 4, none⟩ = some (.int .i64 x.f4) := hk4
   have f7 : wr.cell? ⟨ad.block, ad.off + 5, none⟩ = some (.slice X5 x.f5.length e5) := hk5
   refine start_ (n := 14) (S := fun w' => w'.cell? ⟨g2, 5, none⟩ = some (.slice (some ad) l5.length c5) ∧ w'.cell? ⟨g2, 0, none⟩ = some (.int .i64 9) ∧ w'.cell? ad = some (.int .i64 x.f0) ∧ w'.cell? ⟨ad.block, ad.off + 1, none⟩ = some (.string x.f1) ∧ w'.cell? ⟨ad.block, ad.off + 2, none⟩ = some (.slice X2 x.f2.length e2_) ∧ w'.cell? ⟨ad.block, ad.off + 3, none⟩ = some (.int .i64 x.f3) ∧ w'.cell? ⟨ad.block, ad.off + 4, none⟩ = some (.int .i64 x.f4) ∧ w'.cell? ⟨ad.block, ad.off + 5, none⟩ = some (.slice X5 x.f5.length e5)) (ds := []) (Array.replicate 14 false) (by kernel_rfl) rfl rfl ⟨f0, f1, f2, f3, f4, f5, f6, f7⟩ (fun hHeld => ?_)
   refine pu_ 0 (some 61) ?_
   refine pu_ 1 (some 62) ?_
   refine tk_ 2 (some 63) hHeld ?_
   refine pu_ 3 (some 64) ?_
   refine tk_ 4 (some 65) hHeld ?_
   refine pu_ 5 (some 66) ?_
   refine pu_ 7 (some 68) ?_
   refine pu_ 8 (some 69) ?_
   refine pu_ 10 (some 71) ?_
   refine tk_ 11 (some 72) hHeld ?_
   refine pu_ 12 (some 73) ?_
   refine on_ 6 (some 67) (fun K hK => ?_)
   refine value_ (w1 := ?_) (v := ?_) (by rfl) rfl ?_ ?_
   rotate_left 2
   ·go_simp
    constructor
    ·rfl
    ·rfl
   have HZ := mk_ (below_alloc (below_drew (Below.refl wr.heap.size wr)) (.cells #[.string s] 9))
   refine hK.out _ _ ⟨((HZ.out.cell (p := ⟨g2, 5, none⟩) (World.block_lt_of_cell? _ _ f0)).trans f0), ((HZ.out.cell (p := ⟨g2, 0, none⟩) (World.block_lt_of_cell? _ _ f1)).trans f1), ((HZ.out.cell (p := ad) (World.block_lt_of_cell? _ _ f2)).trans f2), ((HZ.out.cell (p := ⟨ad.block, ad.off + 1, none⟩) (World.block_lt_of_cell? _ _ f3)).trans f3), ((HZ.out.cell (p := ⟨ad.block, ad.off + 2, none⟩) (World.block_lt_of_cell? _ _ f4)).trans f4), ((HZ.out.cell (p := ⟨ad.block, ad.off + 3, none⟩) (World.block_lt_of_cell? _ _ f5)).trans f5), ((HZ.out.cell (p := ⟨ad.block, ad.off + 4, none⟩) (World.block_lt_of_cell? _ _ f6)).trans f6), ((HZ.out.cell (p := ⟨ad.block, ad.off + 5, none⟩) (World.block_lt_of_cell? _ _ f7)).trans f7)⟩ (fun hHeld => ?_)
   clear hK K
   refine no_ (N := some 67) ?_
   refine on_ 9 (some 70) (fun K hK => ?_)
   refine go_ Tryd.func40 #[.pointer (some ⟨b, 0, none⟩), .agg #[.int .i64 x.f0, .string x.f1, .slice X2 x.f2.length e2_, .int .i64 x.f3, .int .i64 x.f4, .slice X5 x.f5.length e5], .slice (some ⟨wr.heap.size, 0, none⟩) 1 1, .int .i64 co, .int .i64 m] ?_
   refine (truth_any ds ts id fs k b x X2 e2_ X5 e5 [s] (some ⟨wr.heap.size, 0, none⟩) 1 co m q _ (Md_below HMr.out HZ.out) (tb_on HTB.out (below_step HBr.out HZ.out)) (Kd.C_below HG2.out HZ.out) HLX.out.1 (Kd.C_below HG5.out HZ.out) HLX.out.2 (C_one _ s 9) (Nat.le_refl _) HQ.out).mono ?_
   rintro e w7 ⟨rfl, hb⟩
   refine ⟨_, rfl, ?_⟩
   have HB7 := mk_ (HZ.out.trans (hb.mono HZ.out.size))
   clear hb
   refine hK.out _ _ ⟨((HB7.out.cell (p := ⟨g2, 5, none⟩) (World.block_lt_of_cell? _ _ f0)).trans f0), ((HB7.out.cell (p := ⟨g2, 0, none⟩) (World.block_lt_of_cell? _ _ f1)).trans f1), ((HB7.out.cell (p := ad) (World.block_lt_of_cell? _ _ f2)).trans f2), ((HB7.out.cell (p := ⟨ad.block, ad.off + 1, none⟩) (World.block_lt_of_cell? _ _ f3)).trans f3), ((HB7.out.cell (p := ⟨ad.block, ad.off + 2, none⟩) (World.block_lt_of_cell? _ _ f4)).trans f4), ((HB7.out.cell (p := ⟨ad.block, ad.off + 3, none⟩) (World.block_lt_of_cell? _ _ f5)).trans f5), ((HB7.out.cell (p := ⟨ad.block, ad.off + 4, none⟩) (World.block_lt_of_cell? _ _ f6)).trans f6), ((HB7.out.cell (p := ⟨ad.block, ad.off + 5, none⟩) (World.block_lt_of_cell? _ _ f7)).trans f7)⟩ (fun hHeld => ?_)
   clear hK K
   refine no_ (N := some 70) ?_
   refine pu_ 13 (some 74) ?_
   refine done_ (by kernel_rfl) ?_
   cases q
   ·rw [if_pos rfl] at hw
    have HW := mk_ hw
    clear hw
    go_wp2
    go_roundw
    case rel => exact ⟨i + 1, by rw [e1], ⟨by omega⟩, ⟨by omega⟩, ⟨by rw [e2]; exact HW.out⟩, ⟨by have := HBW.out.trans (HB7.out.mono HBW.out.size); repeat (first | exact this | apply below_drew)⟩⟩
    case measure => rw [e1]; simp only [intOf]; omega
   ·rw [if_neg (by decide)] at hw
    simp only [Option.some.injEq, Prod.mk.injEq] at hw
    obtain ⟨rfl, rfl, rfl⟩ := hw
    go_wp2
    go_ret3
    exact ⟨rfl, by have := below_step HBr.out HB7.out; repeat (first | exact this | apply below_drew)⟩
  ·obtain rfl : i = (ns.length : Int) := by have := HK.out; omega
   have hw := HW.out
   rw [Int.toNat_natCast, List.drop_length, witL] at hw
   simp only [Option.some.injEq, Prod.mk.injEq] at hw
   obtain ⟨rfl, rfl, rfl⟩ := hw
   clear HW
   go_wp2
   go_ret3
   exact ⟨rfl, HBr.out⟩
theorem evaluate_Witness.calls (k : Nat) (A0 : Option Addr) (c0 : Nat) (ds : List S73) (A1 : Option Addr) (c1 : Nat) (ts : List Int) (id : Int) (A3 : Option Addr) (c3 : Nat) (fs : List S62) (a0 : Int) (a1 : ByteArray) (A2 : Option Addr) (c2 : Nat) (l2 : List S92) (a3 : Int) (a4 : Int) (A5 : Option Addr) (c5 : Nat) (l5 : List S32) (co m : Int) (r1 : ByteArray) (r2 : Bool) (r3 : Int) (w : World) (hr0 : Kd.C k73 w A0 ds.length ds) (hc0 : ds.length ≤ c0) (hr1 : Kd.C (Kd.int .i64) w A1 ts.length ts) (hc1 : ts.length ≤ c1) (hr3 : Kd.C k62 w A3 fs.length fs) (hc3 : fs.length ≤ c3) (hr2 : Kd.C k92 w A2 l2.length l2) (hc2 : l2.length ≤ c2) (hr5 : Kd.C k32 w A5 l5.length l5) (hc5 : l5.length ≤ c5) (h : evaluate_Witness.f k ds ts id fs a0 a1 l2 a3 a4 l5 co m = some (r1, r2, r3)) (htb : Tb w) :
  Calls Tryd.prog 27 #[.agg #[.slice A0 ds.length c0, .slice A1 ts.length c1, .int .i64 id, .slice A3 fs.length c3], .agg #[.int .i64 a0, .string a1, .slice A2 l2.length c2, .int .i64 a3, .int .i64 a4, .slice A5 l5.length c5], .int .i64 co, .int .i64 m] w fun e w' => e = .returned (.tuple #[.string r1, .bool r2, .int .i64 r3]) ∧ Below w.heap.size w w' := by
 unfold evaluate_Witness.f at h
 obtain ⟨e, he, h⟩ := Option.bind_eq_some_iff.1 h
 by_cases hg : ¬ e = 1 ∧ e = 0 ∧ insideB ts id co m = true ∧ (a0 = 8 ∨ a0 = 9)
 ·obtain ⟨hn1, rfl, hin, hop⟩ := hg
  rw [if_neg (by decide)] at h
  by_cases hl : ts.length < 4398046511104
  case neg => rw [if_neg hl] at h; cases h
  rw [if_pos hl, if_pos hin] at h
  rcases hop with rfl | rfl
  ·rw [if_pos rfl, if_pos rfl] at h
   obtain ⟨⟨ns, ok⟩, hns, h⟩ := Option.bind_eq_some_iff.1 h
   have h : (if 0 < l5.length ∧ ns.length < 4398046511104 then witL true (fun s => truthG ds ts id fs k (rd_T32 l5 0) [s] co m) ns else none) = some (r1, r2, r3) := h
   by_cases hc : 0 < l5.length ∧ ns.length < 4398046511104
   case neg => rw [if_neg hc] at h; cases h
   rw [if_pos hc] at h
   exact witness_good8 k A0 c0 ds A1 c1 ts id A3 c3 fs a1 A2 c2 l2 a3 a4 A5 c5 l5 co m ns ok r1 r2 r3 w hr0 hc0 hr1 hc1 hr3 hc3 hr2 hc2 hr5 hc5 he hl hin hns hc h htb
  ·rw [if_neg (by decide), if_pos rfl, if_pos rfl] at h
   obtain ⟨⟨ns, ok⟩, hns, h⟩ := Option.bind_eq_some_iff.1 h
   have h : (if 0 < l5.length ∧ ns.length < 4398046511104 then witL false (fun s => truthG ds ts id fs k (rd_T32 l5 0) [s] co m) ns else none) = some (r1, r2, r3) := h
   by_cases hc : 0 < l5.length ∧ ns.length < 4398046511104
   case neg => rw [if_neg hc] at h; cases h
   rw [if_pos hc] at h
   exact witness_good9 k A0 c0 ds A1 c1 ts id A3 c3 fs a1 A2 c2 l2 a3 a4 A5 c5 l5 co m ns ok r1 r2 r3 w hr0 hc0 hr1 hc1 hr3 hc3 hr2 hc2 hr5 hc5 he hl hin hns hc h htb
 have hu25 := Tryd.underlying25
 have hu28 := Tryd.underlying28
 have hu32 := Tryd.underlying32
 have hu84 := Tryd.underlying84
 have HR0 := mk_ hr0
 have HR1 := mk_ hr1
 have HR2 := mk_ hr2
 have HR3 := mk_ hr3
 have HR5 := mk_ hr5
 have HTB := mk_ htb
 have HL := mk_ (And.intro hc0 (And.intro hc1 (And.intro hc2 hc5)))
 clear hr0 hr1 hr2 hr3 hr5 hc0 hc1 hc2 hc3 hc5 htb
 have HB0 := mk_ (Below.refl w.heap.size w)
 have T1 : True := trivial
 have T2 : True := trivial
 have T3 : True := trivial
 have T4 : True := trivial
 have T5 : True := trivial
 have T6 : True := trivial
 have T7 : True := trivial
 have T8 : True := trivial
 have HLD := mk_ he
 clear he
 by_cases h1 : e = 1
 ·subst h1
  rw [if_pos rfl] at h
  simp only [Option.some.injEq, Prod.mk.injEq] at h
  obtain ⟨rfl, rfl, rfl⟩ := h
  clear hg
  go_enter Tryd.func27, Tryd.ntmps27
  go_wp2_with (first
    | (clear T1; (with_reducible refine gate_dst (N := 4) rfl ?_); refine bx_ 4 #[.slice A0 ds.length c0, .slice A1 ts.length c1, .int .i64 id, .slice A3 fs.length c3] 28 ?_; intro g1 hg w1 hbox hb; have HB1 := mk_ (below_step HB0.out hb); have BW1 := mk_ hbox; clear hb hbox hg HB0)
    | (clear T2; (with_reducible refine gate_dst (N := 5) rfl ?_); refine bx_ 5 #[.int .i64 a0, .string a1, .slice A2 l2.length c2, .int .i64 a3, .int .i64 a4, .slice A5 l5.length c5] 32 ?_; intro g2 hg w2 hbox hb; have HB2 := mk_ (below_step HB1.out hb); have BW2 := mk_ (blk_below BW1.out hb); have BF2 := mk_ hbox; clear hb hbox hg HB1 BW1; have x0 : w2.cell? ⟨g1, 0, none⟩ = some (.slice A0 ds.length c0) := (blk_cell BW2.out 0).trans rfl; have x1 : w2.cell? ⟨g1, 1, none⟩ = some (.slice A1 ts.length c1) := (blk_cell BW2.out 1).trans rfl; have x2 : w2.cell? ⟨g1, 2, none⟩ = some (.int .i64 id) := (blk_cell BW2.out 2).trans rfl; have x3 : w2.cell? ⟨g1, 3, none⟩ = some (.slice A3 fs.length c3) := (blk_cell BW2.out 3).trans rfl; have y0 : w2.cell? ⟨g2, 0, none⟩ = some (.int .i64 a0) := (blk_cell BF2.out 0).trans rfl; have y1 : w2.cell? ⟨g2, 1, none⟩ = some (.string a1) := (blk_cell BF2.out 1).trans rfl; have y2 : w2.cell? ⟨g2, 2, none⟩ = some (.slice A2 l2.length c2) := (blk_cell BF2.out 2).trans rfl; have y3 : w2.cell? ⟨g2, 3, none⟩ = some (.int .i64 a3) := (blk_cell BF2.out 3).trans rfl; have y4 : w2.cell? ⟨g2, 4, none⟩ = some (.int .i64 a4) := (blk_cell BF2.out 4).trans rfl; have y5 : w2.cell? ⟨g2, 5, none⟩ = some (.slice A5 l5.length c5) := (blk_cell BF2.out 5).trans rfl)
    | (clear T3; go_at_call 38; refine (load_any k A0 c0 ds A1 c1 ts id A3 c3 fs (⟨a0, a1, l2, a3, a4, l5⟩ : S32) A2 c2 A5 c5 1 _ (Kd.C_below HR0.out HB2.out) HL.out.1 (Kd.C_below HR1.out HB2.out) HL.out.2.1 (Kd.C_below HR3.out HB2.out) (Kd.C_below HR2.out HB2.out) HL.out.2.2.1 (Kd.C_below HR5.out HB2.out) HL.out.2.2.2 HLD.out).mono ?_; rintro e w3 ⟨hcase, hb⟩; obtain ⟨_, rfl⟩ := hcase.resolve_right (fun h => h.1 rfl); have HB3 := mk_ (below_step HB2.out hb); have BF3 := mk_ (blk_below BF2.out hb); clear hb HB2 hcase; have y'0 : w3.cell? ⟨g2, 0, none⟩ = some (.int .i64 a0) := (blk_cell BF3.out 0).trans rfl; have y'1 : w3.cell? ⟨g2, 1, none⟩ = some (.string a1) := (blk_cell BF3.out 1).trans rfl; have y'2 : w3.cell? ⟨g2, 2, none⟩ = some (.slice A2 l2.length c2) := (blk_cell BF3.out 2).trans rfl; have y'3 : w3.cell? ⟨g2, 3, none⟩ = some (.int .i64 a3) := (blk_cell BF3.out 3).trans rfl; have y'4 : w3.cell? ⟨g2, 4, none⟩ = some (.int .i64 a4) := (blk_cell BF3.out 4).trans rfl; have y'5 : w3.cell? ⟨g2, 5, none⟩ = some (.slice A5 l5.length c5) := (blk_cell BF3.out 5).trans rfl))
  go_ret3
  exact ⟨rfl, HB3.out⟩
 ·rw [if_neg h1] at h
  have HNE := mk_ h1
  by_cases hl : ts.length < 4398046511104
  case neg => rw [if_neg hl] at h; cases h
  rw [if_pos hl] at h
  have HTL := mk_ hl
  by_cases hi : insideB ts id co m = true
  ·have HIN := mk_ hi
   rw [if_pos hi] at h
   by_cases h8 : a0 = 8
   ·subst h8
    have h0 : ¬ e = 0 := fun h0 => hg ⟨h1, h0, hi, .inl rfl⟩
    rw [if_pos rfl, if_neg h0] at h
    simp only [Option.some.injEq, Prod.mk.injEq] at h
    obtain ⟨rfl, rfl, rfl⟩ := h
    have d1 : (e != 0) = true := bne_iff_ne.mpr h0
    clear h0 hg h1 hl hi
    go_enter Tryd.func27, Tryd.ntmps27
    go_wp2_with (first
      | (clear T1; (with_reducible refine gate_dst (N := 4) rfl ?_); refine bx_ 4 #[.slice A0 ds.length c0, .slice A1 ts.length c1, .int .i64 id, .slice A3 fs.length c3] 28 ?_; intro g1 hg w1 hbox hb; have HB1 := mk_ (below_step HB0.out hb); have BW1 := mk_ hbox; clear hb hbox hg HB0)
      | (clear T2; (with_reducible refine gate_dst (N := 5) rfl ?_); refine bx_ 5 #[.int .i64 8, .string a1, .slice A2 l2.length c2, .int .i64 a3, .int .i64 a4, .slice A5 l5.length c5] 32 ?_; intro g2 hg w2 hbox hb; have HB2 := mk_ (below_step HB1.out hb); have BW2 := mk_ (blk_below BW1.out hb); have BF2 := mk_ hbox; clear hb hbox hg HB1 BW1; have x0 : w2.cell? ⟨g1, 0, none⟩ = some (.slice A0 ds.length c0) := (blk_cell BW2.out 0).trans rfl; have x1 : w2.cell? ⟨g1, 1, none⟩ = some (.slice A1 ts.length c1) := (blk_cell BW2.out 1).trans rfl; have x2 : w2.cell? ⟨g1, 2, none⟩ = some (.int .i64 id) := (blk_cell BW2.out 2).trans rfl; have x3 : w2.cell? ⟨g1, 3, none⟩ = some (.slice A3 fs.length c3) := (blk_cell BW2.out 3).trans rfl; have y0 : w2.cell? ⟨g2, 0, none⟩ = some (.int .i64 8) := (blk_cell BF2.out 0).trans rfl; have y1 : w2.cell? ⟨g2, 1, none⟩ = some (.string a1) := (blk_cell BF2.out 1).trans rfl; have y2 : w2.cell? ⟨g2, 2, none⟩ = some (.slice A2 l2.length c2) := (blk_cell BF2.out 2).trans rfl; have y3 : w2.cell? ⟨g2, 3, none⟩ = some (.int .i64 a3) := (blk_cell BF2.out 3).trans rfl; have y4 : w2.cell? ⟨g2, 4, none⟩ = some (.int .i64 a4) := (blk_cell BF2.out 4).trans rfl; have y5 : w2.cell? ⟨g2, 5, none⟩ = some (.slice A5 l5.length c5) := (blk_cell BF2.out 5).trans rfl)
      | (clear T3; go_at_call 38; refine (load_any k A0 c0 ds A1 c1 ts id A3 c3 fs (⟨8, a1, l2, a3, a4, l5⟩ : S32) A2 c2 A5 c5 e _ (Kd.C_below HR0.out HB2.out) HL.out.1 (Kd.C_below HR1.out HB2.out) HL.out.2.1 (Kd.C_below HR3.out HB2.out) (Kd.C_below HR2.out HB2.out) HL.out.2.2.1 (Kd.C_below HR5.out HB2.out) HL.out.2.2.2 HLD.out).mono ?_; rintro e w3 ⟨hcase, hb⟩; obtain ⟨_, b, rfl, hgb, hmd⟩ := hcase.resolve_left (fun h => HNE.out h.1); have HB3 := mk_ (below_step HB2.out hb); have BF3 := mk_ (blk_below BF2.out hb); have HMD := mk_ hmd; clear hb HB2 hcase hgb hmd; have y'0 : w3.cell? ⟨g2, 0, none⟩ = some (.int .i64 8) := (blk_cell BF3.out 0).trans rfl; have y'1 : w3.cell? ⟨g2, 1, none⟩ = some (.string a1) := (blk_cell BF3.out 1).trans rfl; have y'2 : w3.cell? ⟨g2, 2, none⟩ = some (.slice A2 l2.length c2) := (blk_cell BF3.out 2).trans rfl; have y'3 : w3.cell? ⟨g2, 3, none⟩ = some (.int .i64 a3) := (blk_cell BF3.out 3).trans rfl; have y'4 : w3.cell? ⟨g2, 4, none⟩ = some (.int .i64 a4) := (blk_cell BF3.out 4).trans rfl; have y'5 : w3.cell? ⟨g2, 5, none⟩ = some (.slice A5 l5.length c5) := (blk_cell BF3.out 5).trans rfl)
      | (clear T4; go_at_call 39; refine (inside_any b ds ts id fs co m _ HMD.out HTL.out).mono ?_; rintro e w4 ⟨rfl, rfl⟩; rw [HIN.out]))
    go_ret3
    exact ⟨rfl, HB3.out⟩
   ·rw [if_neg h8] at h
    by_cases h9 : a0 = 9
    ·subst h9
     have h0 : ¬ e = 0 := fun h0 => hg ⟨h1, h0, hi, .inr rfl⟩
     rw [if_pos rfl, if_neg h0] at h
     simp only [Option.some.injEq, Prod.mk.injEq] at h
     obtain ⟨rfl, rfl, rfl⟩ := h
     have d1 : (e != 0) = true := bne_iff_ne.mpr h0
     clear h0 hg h1 hl hi h8
     go_enter Tryd.func27, Tryd.ntmps27
     go_wp2_with (first
       | (clear T1; (with_reducible refine gate_dst (N := 4) rfl ?_); refine bx_ 4 #[.slice A0 ds.length c0, .slice A1 ts.length c1, .int .i64 id, .slice A3 fs.length c3] 28 ?_; intro g1 hg w1 hbox hb; have HB1 := mk_ (below_step HB0.out hb); have BW1 := mk_ hbox; clear hb hbox hg HB0)
       | (clear T2; (with_reducible refine gate_dst (N := 5) rfl ?_); refine bx_ 5 #[.int .i64 9, .string a1, .slice A2 l2.length c2, .int .i64 a3, .int .i64 a4, .slice A5 l5.length c5] 32 ?_; intro g2 hg w2 hbox hb; have HB2 := mk_ (below_step HB1.out hb); have BW2 := mk_ (blk_below BW1.out hb); have BF2 := mk_ hbox; clear hb hbox hg HB1 BW1; have x0 : w2.cell? ⟨g1, 0, none⟩ = some (.slice A0 ds.length c0) := (blk_cell BW2.out 0).trans rfl; have x1 : w2.cell? ⟨g1, 1, none⟩ = some (.slice A1 ts.length c1) := (blk_cell BW2.out 1).trans rfl; have x2 : w2.cell? ⟨g1, 2, none⟩ = some (.int .i64 id) := (blk_cell BW2.out 2).trans rfl; have x3 : w2.cell? ⟨g1, 3, none⟩ = some (.slice A3 fs.length c3) := (blk_cell BW2.out 3).trans rfl; have y0 : w2.cell? ⟨g2, 0, none⟩ = some (.int .i64 9) := (blk_cell BF2.out 0).trans rfl; have y1 : w2.cell? ⟨g2, 1, none⟩ = some (.string a1) := (blk_cell BF2.out 1).trans rfl; have y2 : w2.cell? ⟨g2, 2, none⟩ = some (.slice A2 l2.length c2) := (blk_cell BF2.out 2).trans rfl; have y3 : w2.cell? ⟨g2, 3, none⟩ = some (.int .i64 a3) := (blk_cell BF2.out 3).trans rfl; have y4 : w2.cell? ⟨g2, 4, none⟩ = some (.int .i64 a4) := (blk_cell BF2.out 4).trans rfl; have y5 : w2.cell? ⟨g2, 5, none⟩ = some (.slice A5 l5.length c5) := (blk_cell BF2.out 5).trans rfl)
       | (clear T3; go_at_call 38; refine (load_any k A0 c0 ds A1 c1 ts id A3 c3 fs (⟨9, a1, l2, a3, a4, l5⟩ : S32) A2 c2 A5 c5 e _ (Kd.C_below HR0.out HB2.out) HL.out.1 (Kd.C_below HR1.out HB2.out) HL.out.2.1 (Kd.C_below HR3.out HB2.out) (Kd.C_below HR2.out HB2.out) HL.out.2.2.1 (Kd.C_below HR5.out HB2.out) HL.out.2.2.2 HLD.out).mono ?_; rintro e w3 ⟨hcase, hb⟩; obtain ⟨_, b, rfl, hgb, hmd⟩ := hcase.resolve_left (fun h => HNE.out h.1); have HB3 := mk_ (below_step HB2.out hb); have BF3 := mk_ (blk_below BF2.out hb); have HMD := mk_ hmd; clear hb HB2 hcase hgb hmd; have y'0 : w3.cell? ⟨g2, 0, none⟩ = some (.int .i64 9) := (blk_cell BF3.out 0).trans rfl; have y'1 : w3.cell? ⟨g2, 1, none⟩ = some (.string a1) := (blk_cell BF3.out 1).trans rfl; have y'2 : w3.cell? ⟨g2, 2, none⟩ = some (.slice A2 l2.length c2) := (blk_cell BF3.out 2).trans rfl; have y'3 : w3.cell? ⟨g2, 3, none⟩ = some (.int .i64 a3) := (blk_cell BF3.out 3).trans rfl; have y'4 : w3.cell? ⟨g2, 4, none⟩ = some (.int .i64 a4) := (blk_cell BF3.out 4).trans rfl; have y'5 : w3.cell? ⟨g2, 5, none⟩ = some (.slice A5 l5.length c5) := (blk_cell BF3.out 5).trans rfl)
       | (clear T4; go_at_call 39; refine (inside_any b ds ts id fs co m _ HMD.out HTL.out).mono ?_; rintro e w4 ⟨rfl, rfl⟩; rw [HIN.out]))
     go_ret3
     exact ⟨rfl, HB3.out⟩
    ·rw [if_neg h9] at h
     simp only [Option.some.injEq, Prod.mk.injEq] at h
     obtain ⟨rfl, rfl, rfl⟩ := h
     have d8 : (a0 == 8) = false := beq_eq_false_iff_ne.mpr h8
     have d9 : (a0 == 9) = false := beq_eq_false_iff_ne.mpr h9
     have d8' : (a0 != 8) = true := bne_iff_ne.mpr h8
     have d9' : (a0 != 9) = true := bne_iff_ne.mpr h9
     clear h8 h9 hg h1 hl hi
     go_enter Tryd.func27, Tryd.ntmps27
     go_wp2_with (first
       | (clear T1; (with_reducible refine gate_dst (N := 4) rfl ?_); refine bx_ 4 #[.slice A0 ds.length c0, .slice A1 ts.length c1, .int .i64 id, .slice A3 fs.length c3] 28 ?_; intro g1 hg w1 hbox hb; have HB1 := mk_ (below_step HB0.out hb); have BW1 := mk_ hbox; clear hb hbox hg HB0)
       | (clear T2; (with_reducible refine gate_dst (N := 5) rfl ?_); refine bx_ 5 #[.int .i64 a0, .string a1, .slice A2 l2.length c2, .int .i64 a3, .int .i64 a4, .slice A5 l5.length c5] 32 ?_; intro g2 hg w2 hbox hb; have HB2 := mk_ (below_step HB1.out hb); have BW2 := mk_ (blk_below BW1.out hb); have BF2 := mk_ hbox; clear hb hbox hg HB1 BW1; have x0 : w2.cell? ⟨g1, 0, none⟩ = some (.slice A0 ds.length c0) := (blk_cell BW2.out 0).trans rfl; have x1 : w2.cell? ⟨g1, 1, none⟩ = some (.slice A1 ts.length c1) := (blk_cell BW2.out 1).trans rfl; have x2 : w2.cell? ⟨g1, 2, none⟩ = some (.int .i64 id) := (blk_cell BW2.out 2).trans rfl; have x3 : w2.cell? ⟨g1, 3, none⟩ = some (.slice A3 fs.length c3) := (blk_cell BW2.out 3).trans rfl; have y0 : w2.cell? ⟨g2, 0, none⟩ = some (.int .i64 a0) := (blk_cell BF2.out 0).trans rfl; have y1 : w2.cell? ⟨g2, 1, none⟩ = some (.string a1) := (blk_cell BF2.out 1).trans rfl; have y2 : w2.cell? ⟨g2, 2, none⟩ = some (.slice A2 l2.length c2) := (blk_cell BF2.out 2).trans rfl; have y3 : w2.cell? ⟨g2, 3, none⟩ = some (.int .i64 a3) := (blk_cell BF2.out 3).trans rfl; have y4 : w2.cell? ⟨g2, 4, none⟩ = some (.int .i64 a4) := (blk_cell BF2.out 4).trans rfl; have y5 : w2.cell? ⟨g2, 5, none⟩ = some (.slice A5 l5.length c5) := (blk_cell BF2.out 5).trans rfl)
       | (clear T3; go_at_call 38; refine (load_any k A0 c0 ds A1 c1 ts id A3 c3 fs (⟨a0, a1, l2, a3, a4, l5⟩ : S32) A2 c2 A5 c5 e _ (Kd.C_below HR0.out HB2.out) HL.out.1 (Kd.C_below HR1.out HB2.out) HL.out.2.1 (Kd.C_below HR3.out HB2.out) (Kd.C_below HR2.out HB2.out) HL.out.2.2.1 (Kd.C_below HR5.out HB2.out) HL.out.2.2.2 HLD.out).mono ?_; rintro e w3 ⟨hcase, hb⟩; obtain ⟨_, b, rfl, hgb, hmd⟩ := hcase.resolve_left (fun h => HNE.out h.1); have HB3 := mk_ (below_step HB2.out hb); have BF3 := mk_ (blk_below BF2.out hb); have HMD := mk_ hmd; clear hb HB2 hcase hgb hmd; have y'0 : w3.cell? ⟨g2, 0, none⟩ = some (.int .i64 a0) := (blk_cell BF3.out 0).trans rfl; have y'1 : w3.cell? ⟨g2, 1, none⟩ = some (.string a1) := (blk_cell BF3.out 1).trans rfl; have y'2 : w3.cell? ⟨g2, 2, none⟩ = some (.slice A2 l2.length c2) := (blk_cell BF3.out 2).trans rfl; have y'3 : w3.cell? ⟨g2, 3, none⟩ = some (.int .i64 a3) := (blk_cell BF3.out 3).trans rfl; have y'4 : w3.cell? ⟨g2, 4, none⟩ = some (.int .i64 a4) := (blk_cell BF3.out 4).trans rfl; have y'5 : w3.cell? ⟨g2, 5, none⟩ = some (.slice A5 l5.length c5) := (blk_cell BF3.out 5).trans rfl)
       | (clear T4; go_at_call 39; refine (inside_any b ds ts id fs co m _ HMD.out HTL.out).mono ?_; rintro e w4 ⟨rfl, rfl⟩; rw [HIN.out]))
     go_ret3
     exact ⟨rfl, HB3.out⟩
  ·rw [if_neg hi] at h
   simp only [Option.some.injEq, Prod.mk.injEq] at h
   obtain ⟨rfl, rfl, rfl⟩ := h
   have HIN := mk_ (Bool.eq_false_iff.mpr hi)
   clear hi hg h1 hl
   go_enter Tryd.func27, Tryd.ntmps27
   go_wp2_with (first
     | (clear T1; (with_reducible refine gate_dst (N := 4) rfl ?_); refine bx_ 4 #[.slice A0 ds.length c0, .slice A1 ts.length c1, .int .i64 id, .slice A3 fs.length c3] 28 ?_; intro g1 hg w1 hbox hb; have HB1 := mk_ (below_step HB0.out hb); have BW1 := mk_ hbox; clear hb hbox hg HB0)
     | (clear T2; (with_reducible refine gate_dst (N := 5) rfl ?_); refine bx_ 5 #[.int .i64 a0, .string a1, .slice A2 l2.length c2, .int .i64 a3, .int .i64 a4, .slice A5 l5.length c5] 32 ?_; intro g2 hg w2 hbox hb; have HB2 := mk_ (below_step HB1.out hb); have BW2 := mk_ (blk_below BW1.out hb); have BF2 := mk_ hbox; clear hb hbox hg HB1 BW1; have x0 : w2.cell? ⟨g1, 0, none⟩ = some (.slice A0 ds.length c0) := (blk_cell BW2.out 0).trans rfl; have x1 : w2.cell? ⟨g1, 1, none⟩ = some (.slice A1 ts.length c1) := (blk_cell BW2.out 1).trans rfl; have x2 : w2.cell? ⟨g1, 2, none⟩ = some (.int .i64 id) := (blk_cell BW2.out 2).trans rfl; have x3 : w2.cell? ⟨g1, 3, none⟩ = some (.slice A3 fs.length c3) := (blk_cell BW2.out 3).trans rfl; have y0 : w2.cell? ⟨g2, 0, none⟩ = some (.int .i64 a0) := (blk_cell BF2.out 0).trans rfl; have y1 : w2.cell? ⟨g2, 1, none⟩ = some (.string a1) := (blk_cell BF2.out 1).trans rfl; have y2 : w2.cell? ⟨g2, 2, none⟩ = some (.slice A2 l2.length c2) := (blk_cell BF2.out 2).trans rfl; have y3 : w2.cell? ⟨g2, 3, none⟩ = some (.int .i64 a3) := (blk_cell BF2.out 3).trans rfl; have y4 : w2.cell? ⟨g2, 4, none⟩ = some (.int .i64 a4) := (blk_cell BF2.out 4).trans rfl; have y5 : w2.cell? ⟨g2, 5, none⟩ = some (.slice A5 l5.length c5) := (blk_cell BF2.out 5).trans rfl)
     | (clear T3; go_at_call 38; refine (load_any k A0 c0 ds A1 c1 ts id A3 c3 fs (⟨a0, a1, l2, a3, a4, l5⟩ : S32) A2 c2 A5 c5 e _ (Kd.C_below HR0.out HB2.out) HL.out.1 (Kd.C_below HR1.out HB2.out) HL.out.2.1 (Kd.C_below HR3.out HB2.out) (Kd.C_below HR2.out HB2.out) HL.out.2.2.1 (Kd.C_below HR5.out HB2.out) HL.out.2.2.2 HLD.out).mono ?_; rintro e w3 ⟨hcase, hb⟩; obtain ⟨_, b, rfl, hgb, hmd⟩ := hcase.resolve_left (fun h => HNE.out h.1); have HB3 := mk_ (below_step HB2.out hb); have BF3 := mk_ (blk_below BF2.out hb); have HMD := mk_ hmd; clear hb HB2 hcase hgb hmd; have y'0 : w3.cell? ⟨g2, 0, none⟩ = some (.int .i64 a0) := (blk_cell BF3.out 0).trans rfl; have y'1 : w3.cell? ⟨g2, 1, none⟩ = some (.string a1) := (blk_cell BF3.out 1).trans rfl; have y'2 : w3.cell? ⟨g2, 2, none⟩ = some (.slice A2 l2.length c2) := (blk_cell BF3.out 2).trans rfl; have y'3 : w3.cell? ⟨g2, 3, none⟩ = some (.int .i64 a3) := (blk_cell BF3.out 3).trans rfl; have y'4 : w3.cell? ⟨g2, 4, none⟩ = some (.int .i64 a4) := (blk_cell BF3.out 4).trans rfl; have y'5 : w3.cell? ⟨g2, 5, none⟩ = some (.slice A5 l5.length c5) := (blk_cell BF3.out 5).trans rfl)
     | (clear T4; go_at_call 39; refine (inside_any b ds ts id fs co m _ HMD.out HTL.out).mono ?_; rintro e w4 ⟨rfl, rfl⟩; rw [HIN.out]))
   go_ret3
   exact ⟨rfl, HB3.out⟩

end Go.Proofs.YtolpckflofjfhaaDoor.P
