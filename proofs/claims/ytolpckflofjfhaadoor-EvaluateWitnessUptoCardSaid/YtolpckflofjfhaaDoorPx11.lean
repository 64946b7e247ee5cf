import Derived.Test.YtolpckflofjfhaaDoorPx0
import Derived.Test.YtolpckflofjfhaaDoorPx5
import Derived.Test.YtolpckflofjfhaaDoorPx8
import Derived.Test.YtolpckflofjfhaaDoorPx9
import Derived.Test.YtolpckflofjfhaaDoorPx10
namespace Go.Proofs.YtolpckflofjfhaaDoor.P
open Go.RowKit Go.Proofs.YtolpckflofjfhaaDoorW.PrintWords Go.Proofs.YtolpckflofjfhaaDoorW.PrintLast Go.Proofs.YtolpckflofjfhaaDoorW.PrintMore
attribute [local go_sem] max2_int min2_int max_two min_two max_three min_three max_four min_four
set_option linter.unusedVariables false
set_option maxHeartbeats 16000000
set_option maxRecDepth 100000
set_option linter.unusedSimpArgs false
def witL (all : Bool) (p : ByteArray → Option Bool) : List ByteArray → Option (ByteArray × Bool × Int)
  | [] => some (⟨#[]⟩, false, 0)
  | s :: l => (p s).bind fun b => if b = all then witL all p l else some (s, true, 0)
def evaluate_Witness.f (k : Nat) (ds : List S73) (ts : List Int) (id : Int) (fs : List S62) (a0 : Int) (a1 : ByteArray) (l2 : List S92) (a3 : Int) (a4 : Int) (l5 : List S32) (co m : Int) : Option (ByteArray × Bool × Int) :=
  (loadG k ds ts id fs (⟨a0, a1, l2, a3, a4, l5⟩ : S32)).bind fun e => if e = 1 then some (⟨#[]⟩, false, 1) else if ts.length < 4398046511104 then (if insideB ts id co m = true then (if a0 = 8 then (if e = 0 then (evaluate_individuals.f k ds ts id a1).bind fun ns => (if 0 < l5.length ∧ ns.1.length < 4398046511104 then witL true (fun s => truthG ds ts id fs k (rd_T32 l5 0) [s] co m) ns.1 else none) else some (⟨#[]⟩, false, e)) else if a0 = 9 then (if e = 0 then (evaluate_individuals.f k ds ts id a1).bind fun ns => (if 0 < l5.length ∧ ns.1.length < 4398046511104 then witL false (fun s => truthG ds ts id fs k (rd_T32 l5 0) [s] co m) ns.1 else none) else some (⟨#[]⟩, false, e)) else some (⟨#[]⟩, false, 1)) else some (⟨#[]⟩, false, 1)) else none
theorem C_one (w : World) (s : ByteArray) (t : Nat) : Kd.C Kd.string (w.alloc (.cells #[.string s] t)) (some ⟨w.heap.size, 0, none⟩) [s].length [s] := by
  refine ⟨rfl, by simp, fun _ => ⟨_, rfl, fun j p hp => ⟨[.string p], rfl, rfl, fun i u hu => ?_⟩⟩⟩
  have hi : i = 0 := by have := (List.getElem?_eq_some_iff.1 hu).1; simp at this; omega
  have hj : j = 0 := by have := (List.getElem?_eq_some_iff.1 hp).1; simp at this; omega
  subst hi hj
  obtain rfl : s = p := by simpa using hp
  obtain rfl : Value.string s = u := by simpa using hu
  exact cell_one_new w (.string s) t 0 _ rfl
theorem witness_good (k : Nat) (op : Int) (so : Bool) (hop : op = 8 ∧ so = true ∨ op = 9 ∧ so = false) (A0 : Option Addr) (c0 : Nat) (ds : List S73) (A1 : Option Addr) (c1 : Nat) (ts : List Int) (id : Int) (A3 : Option Addr) (c3 : Nat) (fs : List S62) (a1 : ByteArray) (A2 : Option Addr) (c2 : Nat) (l2 : List S92) (a3 : Int) (a4 : Int) (A5 : Option Addr) (c5 : Nat) (l5 : List S32) (co m : Int) (ns : List ByteArray) (ok : Bool) (rs : ByteArray) (rb : Bool) (ri : Int) (w : World) (hr0 : Kd.C k73 w A0 ds.length ds) (hc0 : ds.length ≤ c0) (hr1 : Kd.C (Kd.int .i64) w A1 ts.length ts) (hc1 : ts.length ≤ c1) (hr3 : Kd.C k62 w A3 fs.length fs) (hc3 : fs.length ≤ c3) (hr2 : Kd.C k92 w A2 l2.length l2) (hc2 : l2.length ≤ c2) (hr5 : Kd.C k32 w A5 l5.length l5) (hc5 : l5.length ≤ c5) (hld : loadG k ds ts id fs (⟨op, a1, l2, a3, a4, l5⟩ : S32) = some 0) (htl : ts.length < 4398046511104) (hin : insideB ts id co m = true) (hns : evaluate_individuals.f k ds ts id a1 = some (ns, ok)) (hc : 0 < l5.length ∧ ns.length < 4398046511104) (h : witL so (fun s => truthG ds ts id fs k (rd_T32 l5 0) [s] co m) ns = some (rs, rb, ri)) (htb : Tb w) :
    Calls Tryd.prog 27 #[.agg #[.slice A0 ds.length c0, .slice A1 ts.length c1, .int .i64 id, .slice A3 fs.length c3], .agg #[.int .i64 op, .string a1, .slice A2 l2.length c2, .int .i64 a3, .int .i64 a4, .slice A5 l5.length c5], .int .i64 co, .int .i64 m] w fun e w' => e = .returned (.tuple #[.string rs, .bool rb, .int .i64 ri]) ∧ Below w.heap.size w w' := by
  rcases hop with ⟨rfl, rfl⟩ | ⟨rfl, rfl⟩
  all_goals (
    have hu25 := Tryd.underlying25
    have hu28 := Tryd.underlying28
    have hu32 := Tryd.underlying32
    have hu84 := Tryd.underlying84
    have HR0 := mk_ hr0
    have HR1 := mk_ hr1
    have HR2 := mk_ hr2
    have HR3 := mk_ hr3
    have HR5 := mk_ hr5
    have HTB := mk_ htb
    have HL := mk_ (And.intro hc0 (And.intro hc1 (And.intro hc2 hc5)))
    clear hr0 hr1 hr2 hr3 hr5 hc0 hc1 hc2 hc3 hc5 htb
    have HB0 := mk_ (Below.refl w.heap.size w)
    have T1 : True := trivial
    have T2 : True := trivial
    have T3 : True := trivial
    have T4 : True := trivial
    have T5 : True := trivial
    have T6 : True := trivial
    have T7 : True := trivial
    have T8 : True := trivial
    have HLD := mk_ hld
    have HTL := mk_ htl
    have HIN := mk_ hin
    have HNS := mk_ hns
    have HC := mk_ hc
    have HW := mk_ h
    have HNE : Aside0 (¬ (0 : Int) = 1) := ⟨by decide⟩
    clear hld htl hin hns hc h
    go_enter Tryd.func27, Tryd.ntmps27
    go_upto_region 6 with (first
      | (clear T1; (with_reducible refine gate_dst (N := 4) rfl ?_); refine bx_ 4 #[.slice A0 ds.length c0, .slice A1 ts.length c1, .int .i64 id, .slice A3 fs.length c3] 28 ?_; intro g1 hg w1 hbox hb; have HB1 := mk_ (below_step HB0.out hb); have BW1 := mk_ hbox; clear hb hbox hg HB0)
      | (clear T2; (with_reducible refine gate_dst (N := 5) rfl ?_); refine bx_ 5 #[.int .i64 _, .string a1, .slice A2 l2.length c2, .int .i64 a3, .int .i64 a4, .slice A5 l5.length c5] 32 ?_; intro g2 hg w2 hbox hb; have HB2 := mk_ (below_step HB1.out hb); have BW2 := mk_ (blk_below BW1.out hb); have BF2 := mk_ hbox; clear hb hbox hg HB1 BW1; have x0 : w2.cell? ⟨g1, 0, none⟩ = some (.slice A0 ds.length c0) := (blk_cell BW2.out 0).trans rfl; have x1 : w2.cell? ⟨g1, 1, none⟩ = some (.slice A1 ts.length c1) := (blk_cell BW2.out 1).trans rfl; have x2 : w2.cell? ⟨g1, 2, none⟩ = some (.int .i64 id) := (blk_cell BW2.out 2).trans rfl; have x3 : w2.cell? ⟨g1, 3, none⟩ = some (.slice A3 fs.length c3) := (blk_cell BW2.out 3).trans rfl; have y0 : w2.cell? ⟨g2, 0, none⟩ = some (.int .i64 _) := (blk_cell BF2.out 0).trans rfl; have y1 : w2.cell? ⟨g2, 1, none⟩ = some (.string a1) := (blk_cell BF2.out 1).trans rfl; have y2 : w2.cell? ⟨g2, 2, none⟩ = some (.slice A2 l2.length c2) := (blk_cell BF2.out 2).trans rfl; have y3 : w2.cell? ⟨g2, 3, none⟩ = some (.int .i64 a3) := (blk_cell BF2.out 3).trans rfl; have y4 : w2.cell? ⟨g2, 4, none⟩ = some (.int .i64 a4) := (blk_cell BF2.out 4).trans rfl; have y5 : w2.cell? ⟨g2, 5, none⟩ = some (.slice A5 l5.length c5) := (blk_cell BF2.out 5).trans rfl)
      | (clear T3; go_at_call 38; refine (load_any k A0 c0 ds A1 c1 ts id A3 c3 fs (⟨_, a1, l2, a3, a4, l5⟩ : S32) A2 c2 A5 c5 0 _ (Kd.C_below HR0.out HB2.out) HL.out.1 (Kd.C_below HR1.out HB2.out) HL.out.2.1 (Kd.C_below HR3.out HB2.out) (Kd.C_below HR2.out HB2.out) HL.out.2.2.1 (Kd.C_below HR5.out HB2.out) HL.out.2.2.2 HLD.out).mono ?_; rintro e w3 ⟨hcase, hb⟩; obtain ⟨_, b, rfl, hgb, hmd⟩ := hcase.resolve_left (fun h => HNE.out h.1); have HB3 := mk_ (below_step HB2.out hb); have BF3 := mk_ (blk_below BF2.out hb); have HMD := mk_ hmd; clear hb HB2 hcase hgb hmd; have y'0 : w3.cell? ⟨g2, 0, none⟩ = some (.int .i64 _) := (blk_cell BF3.out 0).trans rfl; have y'1 : w3.cell? ⟨g2, 1, none⟩ = some (.string a1) := (blk_cell BF3.out 1).trans rfl; have y'2 : w3.cell? ⟨g2, 2, none⟩ = some (.slice A2 l2.length c2) := (blk_cell BF3.out 2).trans rfl; have y'3 : w3.cell? ⟨g2, 3, none⟩ = some (.int .i64 a3) := (blk_cell BF3.out 3).trans rfl; have y'4 : w3.cell? ⟨g2, 4, none⟩ = some (.int .i64 a4) := (blk_cell BF3.out 4).trans rfl; have y'5 : w3.cell? ⟨g2, 5, none⟩ = some (.slice A5 l5.length c5) := (blk_cell BF3.out 5).trans rfl)
      | (clear T4; go_at_call 39; refine (inside_any b ds ts id fs co m _ HMD.out HTL.out).mono ?_; rintro e w4 ⟨rfl, rfl⟩; rw [HIN.out]))
    obtain ⟨M0, d0, M1, d1, mb, nm, hm, hm0, hm1, hm2, hm3, _⟩ := HMD.out
    refine start_ (n := 12) (S := fun w' => w'.cell? ⟨b, 0, none⟩ = some (.slice M0 ds.length d0) ∧ w'.cell? ⟨b, 1, none⟩ = some (.slice M1 ts.length d1) ∧ w'.cell? ⟨b, 2, none⟩ = some (.int .i64 id) ∧ w'.cell? ⟨b, 3, none⟩ = some (.map (some mb)) ∧ w'.cell? ⟨g2, 1, none⟩ = some (.string a1)) (ds := [6]) (Array.replicate 12 false) (by kernel_rfl) rfl rfl ⟨(blk_cell (blk_drew hm) 0).trans rfl, (blk_cell (blk_drew hm) 1).trans rfl, (blk_cell (blk_drew hm) 2).trans rfl, (blk_cell (blk_drew hm) 3).trans rfl, (blk_cell (blk_drew BF3.out) 1).trans rfl⟩ (fun hHeld => ?_)
    refine pu_ 0 (some 46) ?_
    refine pu_ 1 (some 47) ?_
    refine pu_ 2 (some 48) ?_
    refine tk_ 3 (some 49) hHeld ?_
    refine pu_ 4 (some 50) ?_
    refine tk_ 5 (some 51) hHeld ?_
    refine la_ 6 (some 52) (fun K hK => ?_)
    refine go_ Tryd.func47 #[.agg #[.slice M0 ds.length d0, .slice M1 ts.length d1, .int .i64 id], .string a1] ?_
    refine (evaluate_individuals.calls k (fun k_ => k_ < w4.heap.size) M0 d0 ds M1 d1 ts id a1 ns ok _ (Kd.V_mk hm0 (Kd.F_below (Kd.C_F k73_heap hm2) (below_drew (Below.refl _ _)))) (Kd.C_below hm3 (below_drew (Below.refl _ _))) hm1 HNS.out).mono ?_
    rintro e w6 ⟨v, rfl, hv, hb⟩
    obtain ⟨AN, cN, rfl, hlN, hfN⟩ := hv
    refine ⟨_, rfl, ?_⟩
    have hb3 : Below w4.heap.size w4 w6 := (below_drew (Below.refl _ _)).trans hb
    have HB6 := mk_ (below_step HB3.out hb3)
    have BF6 := mk_ (blk_below BF3.out hb3)
    have HMD6 := mk_ (Md_below HMD.out hb3)
    have HN6 := mk_ (Kd.F_now hfN)
    clear hb hb3 hlN hfN
    refine hK.out _ _ ?_
    clear hK K
    refine no_ (N := some 52) ?_
    refine pu_ 7 (some 45) ?_
    refine pu_ 8 (some 53) ?_
    refine pu_ 9 (some 54) ?_
    refine pu_ 10 (some 13) ?_
    refine pu_ 11 (some 14) ?_
    refine done_ (by kernel_rfl) ?_
    clear hm hm2 hm3
    clear y0 y'0
    clear y1 y'1
    clear y2 y'2
    clear y3 y'3
    clear y4 y'4
    clear y5 y'5
    clear x0
    clear x1
    clear x2
    clear x3
    go_wp2
    go_loopw [57] (fun v wr => ∃ (i : Int), v = .int .i64 i ∧ Aside0 (0 ≤ i) ∧ Aside0 (i ≤ (ns.length : Int)) ∧ Aside0 (witL _ (fun s => truthG ds ts id fs k (rd_T32 l5 0) [s] co m) (ns.drop i.toNat) = some (rs, rb, ri)) ∧ Aside0 (Below w6.heap.size w6 wr)) (fun v _ => ns.length - (intOf v).toNat)
    case atStart => exact ⟨0, rfl, ⟨Int.le_refl _⟩, ⟨by omega⟩, HW, ⟨by repeat (first | exact Below.refl _ _ | apply below_drew)⟩⟩
    case round =>
      clear HW
      obtain ⟨i, rfl, H0, HK, HW, HBW⟩ := hrel
      have BFr := mk_ (blk_below BF6.out HBW.out)
      have HMr := mk_ (Md_below HMD6.out HBW.out)
      have HBr := mk_ (below_step HB6.out HBW.out)
      by_cases hlt : i < (ns.length : Int)
      · have h0 := H0.out
        have hk : i.toNat < ns.length := by omega
        obtain ⟨an, e_an, hnm⟩ := Kd.at_string (Kd.C_below HN6.out HBW.out) i h0 hlt
        subst e_an
        have p0 : (0 ≤ i) = True := eq_true h0
        have p1 : (i < (ns.length : Int)) = True := eq_true hlt
        have hw := HW.out
        rw [List.drop_eq_getElem_cons hk, witL] at hw
        have es : rdOf ByteArray.empty ns i = ns[i.toNat] := by unfold rdOf; rw [List.getD_eq_getElem?_getD, List.getElem?_eq_getElem hk]; rfl
        rw [← es] at hw
        obtain ⟨s, hs⟩ : ∃ s, s = rdOf ByteArray.empty ns i := ⟨_, rfl⟩
        rw [← hs] at hw hnm
        clear hs es
        have e1 : wrap64 (i + 1) = i + 1 := by have := HC.out; unfold wrap64; omega
        have e2 : (i + 1).toNat = i.toNat + 1 := by omega
        obtain ⟨q, hq, hw⟩ := Option.bind_eq_some_iff.1 hw
        obtain ⟨ad, X2, e2_, X5, e5, e_ad, hk0, hk1, hk2, hk3, hk4, hk5, hl2, hg2, hl5, hg5⟩ := at_T32 (Kd.C_below HR5.out HBr.out) 0 (Int.le_refl _) (by have := HC.out; omega)
        subst e_ad
        obtain ⟨x, hxe⟩ : ∃ x, x = rd_T32 l5 0 := ⟨_, rfl⟩
        rw [← hxe] at hk0 hk1 hk2 hk3 hk4 hk5 hl2 hg2 hl5 hg5 hq
        clear hxe
        have ea : ad.add ((0 : Int).toNat * 6) = ad := by cases ad; rfl
        rw [ea] at hk0 hk1 hk2 hk3 hk4 hk5
        clear ea
        have HQ := mk_ hq
        have HG2 := mk_ hg2
        have HG5 := mk_ hg5
        have HLX := mk_ (And.intro hl2 hl5)
        clear hq hg2 hg5 hl2 hl5 HW HK
        have hlp : 0 < l5.length := HC.out.1
        go_upto_region 10 with (fail)
        have f0 : wr.cell? ⟨g2, 5, none⟩ = some (.slice (some ad) l5.length c5) := (blk_cell BFr.out 5).trans rfl
        have f1 : wr.cell? ⟨g2, 0, none⟩ = some (.int .i64 _) := (blk_cell BFr.out 0).trans rfl
        have f2 : wr.cell? ad = some (.int .i64 x.f0) := hk0
        have f3 : wr.cell? ⟨ad.block, ad.off + 1, none⟩ = some (.string x.f1) := hk1
        have f4 : wr.cell? ⟨ad.block, ad.off + 2, none⟩ = some (.slice X2 x.f2.length e2_) := hk2
        have f5 : wr.cell? ⟨ad.block, ad.off + 3, none⟩ = some (.int .i64 x.f3) := hk3
        have f6 : wr.cell? ⟨ad.block, ad.off + 4, none⟩ = some (.int .i64 x.f4) := hk4
        have f7 : wr.cell? ⟨ad.block, ad.off + 5, none⟩ = some (.slice X5 x.f5.length e5) := hk5
        refine start_ (n := 14) (S := fun w' => w'.cell? ⟨g2, 5, none⟩ = some (.slice (some ad) l5.length c5) ∧ w'.cell? ⟨g2, 0, none⟩ = some (.int .i64 _) ∧ w'.cell? ad = some (.int .i64 x.f0) ∧ w'.cell? ⟨ad.block, ad.off + 1, none⟩ = some (.string x.f1) ∧ w'.cell? ⟨ad.block, ad.off + 2, none⟩ = some (.slice X2 x.f2.length e2_) ∧ w'.cell? ⟨ad.block, ad.off + 3, none⟩ = some (.int .i64 x.f3) ∧ w'.cell? ⟨ad.block, ad.off + 4, none⟩ = some (.int .i64 x.f4) ∧ w'.cell? ⟨ad.block, ad.off + 5, none⟩ = some (.slice X5 x.f5.length e5)) (ds := []) (Array.replicate 14 false) (by kernel_rfl) rfl rfl ⟨f0, f1, f2, f3, f4, f5, f6, f7⟩ (fun hHeld => ?_)
        refine pu_ 0 (some 61) ?_
        refine pu_ 1 (some 62) ?_
        refine tk_ 2 (some 63) hHeld ?_
        refine pu_ 3 (some 64) ?_
        refine tk_ 4 (some 65) hHeld ?_
        refine pu_ 5 (some 66) ?_
        refine pu_ 7 (some 68) ?_
        refine pu_ 8 (some 69) ?_
        refine pu_ 10 (some 71) ?_
        refine tk_ 11 (some 72) hHeld ?_
        refine pu_ 12 (some 73) ?_
        refine on_ 6 (some 67) (fun K hK => ?_)
        refine value_ (w1 := ?_) (v := ?_) (by rfl) rfl ?_ ?_
        rotate_left 2
        · go_simp
          constructor
          · rfl
          · rfl
        have HZ := mk_ (below_alloc (below_drew (Below.refl wr.heap.size wr)) (.cells #[.string s] 9))
        refine hK.out _ _ ⟨((HZ.out.cell (p := ⟨g2, 5, none⟩) (World.block_lt_of_cell? _ _ f0)).trans f0), ((HZ.out.cell (p := ⟨g2, 0, none⟩) (World.block_lt_of_cell? _ _ f1)).trans f1), ((HZ.out.cell (p := ad) (World.block_lt_of_cell? _ _ f2)).trans f2), ((HZ.out.cell (p := ⟨ad.block, ad.off + 1, none⟩) (World.block_lt_of_cell? _ _ f3)).trans f3), ((HZ.out.cell (p := ⟨ad.block, ad.off + 2, none⟩) (World.block_lt_of_cell? _ _ f4)).trans f4), ((HZ.out.cell (p := ⟨ad.block, ad.off + 3, none⟩) (World.block_lt_of_cell? _ _ f5)).trans f5), ((HZ.out.cell (p := ⟨ad.block, ad.off + 4, none⟩) (World.block_lt_of_cell? _ _ f6)).trans f6), ((HZ.out.cell (p := ⟨ad.block, ad.off + 5, none⟩) (World.block_lt_of_cell? _ _ f7)).trans f7)⟩ (fun hHeld => ?_)
        clear hK K
        refine no_ (N := some 67) ?_
        refine on_ 9 (some 70) (fun K hK => ?_)
        refine go_ Tryd.func40 #[.pointer (some ⟨b, 0, none⟩), .agg #[.int .i64 x.f0, .string x.f1, .slice X2 x.f2.length e2_, .int .i64 x.f3, .int .i64 x.f4, .slice X5 x.f5.length e5], .slice (some ⟨wr.heap.size, 0, none⟩) 1 1, .int .i64 co, .int .i64 m] ?_
        refine (truth_any ds ts id fs k b x X2 e2_ X5 e5 [s] (some ⟨wr.heap.size, 0, none⟩) 1 co m q _ (Md_below HMr.out HZ.out) (tb_on HTB.out (below_step HBr.out HZ.out)) (Kd.C_below HG2.out HZ.out) HLX.out.1 (Kd.C_below HG5.out HZ.out) HLX.out.2 (C_one _ s 9) (Nat.le_refl _) HQ.out).mono ?_
        rintro e w7 ⟨rfl, hb⟩
        refine ⟨_, rfl, ?_⟩
        have HB7 := mk_ (HZ.out.trans (hb.mono HZ.out.size))
        clear hb
        refine hK.out _ _ ⟨((HB7.out.cell (p := ⟨g2, 5, none⟩) (World.block_lt_of_cell? _ _ f0)).trans f0), ((HB7.out.cell (p := ⟨g2, 0, none⟩) (World.block_lt_of_cell? _ _ f1)).trans f1), ((HB7.out.cell (p := ad) (World.block_lt_of_cell? _ _ f2)).trans f2), ((HB7.out.cell (p := ⟨ad.block, ad.off + 1, none⟩) (World.block_lt_of_cell? _ _ f3)).trans f3), ((HB7.out.cell (p := ⟨ad.block, ad.off + 2, none⟩) (World.block_lt_of_cell? _ _ f4)).trans f4), ((HB7.out.cell (p := ⟨ad.block, ad.off + 3, none⟩) (World.block_lt_of_cell? _ _ f5)).trans f5), ((HB7.out.cell (p := ⟨ad.block, ad.off + 4, none⟩) (World.block_lt_of_cell? _ _ f6)).trans f6), ((HB7.out.cell (p := ⟨ad.block, ad.off + 5, none⟩) (World.block_lt_of_cell? _ _ f7)).trans f7)⟩ (fun hHeld => ?_)
        clear hK K
        refine no_ (N := some 70) ?_
        refine pu_ 13 (some 74) ?_
        refine done_ (by kernel_rfl) ?_
        cases q
        all_goals first
          | rw [if_neg (by decide)] at hw
            simp only [Option.some.injEq, Prod.mk.injEq] at hw
            obtain ⟨rfl, rfl, rfl⟩ := hw
            go_wp2
            go_ret3
            exact ⟨rfl, by have := below_step HBr.out HB7.out; repeat (first | exact this | apply below_drew)⟩
          | rw [if_pos rfl] at hw
            have HW := mk_ hw
            clear hw
            go_wp2
            go_roundw
            case rel => exact ⟨i + 1, by rw [e1], ⟨by omega⟩, ⟨by omega⟩, ⟨by rw [e2]; exact HW.out⟩, ⟨by have := HBW.out.trans (HB7.out.mono HBW.out.size); repeat (first | exact this | apply below_drew)⟩⟩
            case measure => rw [e1]; simp only [intOf]; omega
      · obtain rfl : i = (ns.length : Int) := by have := HK.out; omega
        have hw := HW.out
        rw [Int.toNat_natCast, List.drop_length, witL] at hw
        simp only [Option.some.injEq, Prod.mk.injEq] at hw
        obtain ⟨rfl, rfl, rfl⟩ := hw
        clear HW
        go_wp2
        go_ret3
        exact ⟨rfl, HBr.out⟩)
theorem evaluate_Witness.calls (k : Nat) (A0 : Option Addr) (c0 : Nat) (ds : List S73) (A1 : Option Addr) (c1 : Nat) (ts : List Int) (id : Int) (A3 : Option Addr) (c3 : Nat) (fs : List S62) (a0 : Int) (a1 : ByteArray) (A2 : Option Addr) (c2 : Nat) (l2 : List S92) (a3 : Int) (a4 : Int) (A5 : Option Addr) (c5 : Nat) (l5 : List S32) (co m : Int) (r1 : ByteArray) (r2 : Bool) (r3 : Int) (w : World) (hr0 : Kd.C k73 w A0 ds.length ds) (hc0 : ds.length ≤ c0) (hr1 : Kd.C (Kd.int .i64) w A1 ts.length ts) (hc1 : ts.length ≤ c1) (hr3 : Kd.C k62 w A3 fs.length fs) (hc3 : fs.length ≤ c3) (hr2 : Kd.C k92 w A2 l2.length l2) (hc2 : l2.length ≤ c2) (hr5 : Kd.C k32 w A5 l5.length l5) (hc5 : l5.length ≤ c5) (h : evaluate_Witness.f k ds ts id fs a0 a1 l2 a3 a4 l5 co m = some (r1, r2, r3)) (htb : Tb w) :
    Calls Tryd.prog 27 #[.agg #[.slice A0 ds.length c0, .slice A1 ts.length c1, .int .i64 id, .slice A3 fs.length c3], .agg #[.int .i64 a0, .string a1, .slice A2 l2.length c2, .int .i64 a3, .int .i64 a4, .slice A5 l5.length c5], .int .i64 co, .int .i64 m] w fun e w' => e = .returned (.tuple #[.string r1, .bool r2, .int .i64 r3]) ∧ Below w.heap.size w w' := by
  unfold evaluate_Witness.f at h
  obtain ⟨e, he, h⟩ := Option.bind_eq_some_iff.1 h
  by_cases hg : ¬ e = 1 ∧ e = 0 ∧ insideB ts id co m = true ∧ (a0 = 8 ∨ a0 = 9)
  · obtain ⟨hn1, rfl, hin, hop⟩ := hg
    rw [if_neg (by decide)] at h
    by_cases hl : ts.length < 4398046511104
    case neg => rw [if_neg hl] at h; cases h
    rw [if_pos hl, if_pos hin] at h
    rcases hop with rfl | rfl
    · rw [if_pos rfl, if_pos rfl] at h
      obtain ⟨⟨ns, ok⟩, hns, h⟩ := Option.bind_eq_some_iff.1 h
      have h : (if 0 < l5.length ∧ ns.length < 4398046511104 then witL true (fun s => truthG ds ts id fs k (rd_T32 l5 0) [s] co m) ns else none) = some (r1, r2, r3) := h
      by_cases hc : 0 < l5.length ∧ ns.length < 4398046511104
      case neg => rw [if_neg hc] at h; cases h
      rw [if_pos hc] at h
      exact witness_good k 8 true (.inl ⟨rfl, rfl⟩) A0 c0 ds A1 c1 ts id A3 c3 fs a1 A2 c2 l2 a3 a4 A5 c5 l5 co m ns ok r1 r2 r3 w hr0 hc0 hr1 hc1 hr3 hc3 hr2 hc2 hr5 hc5 he hl hin hns hc h htb
    · rw [if_neg (by decide), if_pos rfl, if_pos rfl] at h
      obtain ⟨⟨ns, ok⟩, hns, h⟩ := Option.bind_eq_some_iff.1 h
      have h : (if 0 < l5.length ∧ ns.length < 4398046511104 then witL false (fun s => truthG ds ts id fs k (rd_T32 l5 0) [s] co m) ns else none) = some (r1, r2, r3) := h
      by_cases hc : 0 < l5.length ∧ ns.length < 4398046511104
      case neg => rw [if_neg hc] at h; cases h
      rw [if_pos hc] at h
      exact witness_good k 9 false (.inr ⟨rfl, rfl⟩) A0 c0 ds A1 c1 ts id A3 c3 fs a1 A2 c2 l2 a3 a4 A5 c5 l5 co m ns ok r1 r2 r3 w hr0 hc0 hr1 hc1 hr3 hc3 hr2 hc2 hr5 hc5 he hl hin hns hc h htb
  have hu25 := Tryd.underlying25
  have hu28 := Tryd.underlying28
  have hu32 := Tryd.underlying32
  have hu84 := Tryd.underlying84
  have HR0 := mk_ hr0
  have HR1 := mk_ hr1
  have HR2 := mk_ hr2
  have HR3 := mk_ hr3
  have HR5 := mk_ hr5
  have HTB := mk_ htb
  have HL := mk_ (And.intro hc0 (And.intro hc1 (And.intro hc2 hc5)))
  clear hr0 hr1 hr2 hr3 hr5 hc0 hc1 hc2 hc3 hc5 htb
  have HB0 := mk_ (Below.refl w.heap.size w)
  have T1 : True := trivial
  have T2 : True := trivial
  have T3 : True := trivial
  have T4 : True := trivial
  have T5 : True := trivial
  have T6 : True := trivial
  have T7 : True := trivial
  have T8 : True := trivial
  have HLD := mk_ he
  clear he
  by_cases h1 : e = 1
  · subst h1
    rw [if_pos rfl] at h
    simp only [Option.some.injEq, Prod.mk.injEq] at h
    obtain ⟨rfl, rfl, rfl⟩ := h
    clear hg
    go_enter Tryd.func27, Tryd.ntmps27
    go_wp2_with (first
        | (clear T1; (with_reducible refine gate_dst (N := 4) rfl ?_); refine bx_ 4 #[.slice A0 ds.length c0, .slice A1 ts.length c1, .int .i64 id, .slice A3 fs.length c3] 28 ?_; intro g1 hg w1 hbox hb; have HB1 := mk_ (below_step HB0.out hb); have BW1 := mk_ hbox; clear hb hbox hg HB0)
        | (clear T2; (with_reducible refine gate_dst (N := 5) rfl ?_); refine bx_ 5 #[.int .i64 a0, .string a1, .slice A2 l2.length c2, .int .i64 a3, .int .i64 a4, .slice A5 l5.length c5] 32 ?_; intro g2 hg w2 hbox hb; have HB2 := mk_ (below_step HB1.out hb); have BW2 := mk_ (blk_below BW1.out hb); have BF2 := mk_ hbox; clear hb hbox hg HB1 BW1; have x0 : w2.cell? ⟨g1, 0, none⟩ = some (.slice A0 ds.length c0) := (blk_cell BW2.out 0).trans rfl; have x1 : w2.cell? ⟨g1, 1, none⟩ = some (.slice A1 ts.length c1) := (blk_cell BW2.out 1).trans rfl; have x2 : w2.cell? ⟨g1, 2, none⟩ = some (.int .i64 id) := (blk_cell BW2.out 2).trans rfl; have x3 : w2.cell? ⟨g1, 3, none⟩ = some (.slice A3 fs.length c3) := (blk_cell BW2.out 3).trans rfl; have y0 : w2.cell? ⟨g2, 0, none⟩ = some (.int .i64 a0) := (blk_cell BF2.out 0).trans rfl; have y1 : w2.cell? ⟨g2, 1, none⟩ = some (.string a1) := (blk_cell BF2.out 1).trans rfl; have y2 : w2.cell? ⟨g2, 2, none⟩ = some (.slice A2 l2.length c2) := (blk_cell BF2.out 2).trans rfl; have y3 : w2.cell? ⟨g2, 3, none⟩ = some (.int .i64 a3) := (blk_cell BF2.out 3).trans rfl; have y4 : w2.cell? ⟨g2, 4, none⟩ = some (.int .i64 a4) := (blk_cell BF2.out 4).trans rfl; have y5 : w2.cell? ⟨g2, 5, none⟩ = some (.slice A5 l5.length c5) := (blk_cell BF2.out 5).trans rfl)
        | (clear T3; go_at_call 38; refine (load_any k A0 c0 ds A1 c1 ts id A3 c3 fs (⟨a0, a1, l2, a3, a4, l5⟩ : S32) A2 c2 A5 c5 1 _ (Kd.C_below HR0.out HB2.out) HL.out.1 (Kd.C_below HR1.out HB2.out) HL.out.2.1 (Kd.C_below HR3.out HB2.out) (Kd.C_below HR2.out HB2.out) HL.out.2.2.1 (Kd.C_below HR5.out HB2.out) HL.out.2.2.2 HLD.out).mono ?_; rintro e w3 ⟨hcase, hb⟩; obtain ⟨_, rfl⟩ := hcase.resolve_right (fun h => h.1 rfl); have HB3 := mk_ (below_step HB2.out hb); have BF3 := mk_ (blk_below BF2.out hb); clear hb HB2 hcase; have y'0 : w3.cell? ⟨g2, 0, none⟩ = some (.int .i64 a0) := (blk_cell BF3.out 0).trans rfl; have y'1 : w3.cell? ⟨g2, 1, none⟩ = some (.string a1) := (blk_cell BF3.out 1).trans rfl; have y'2 : w3.cell? ⟨g2, 2, none⟩ = some (.slice A2 l2.length c2) := (blk_cell BF3.out 2).trans rfl; have y'3 : w3.cell? ⟨g2, 3, none⟩ = some (.int .i64 a3) := (blk_cell BF3.out 3).trans rfl; have y'4 : w3.cell? ⟨g2, 4, none⟩ = some (.int .i64 a4) := (blk_cell BF3.out 4).trans rfl; have y'5 : w3.cell? ⟨g2, 5, none⟩ = some (.slice A5 l5.length c5) := (blk_cell BF3.out 5).trans rfl))
    go_ret3
    exact ⟨rfl, HB3.out⟩
  · rw [if_neg h1] at h
    have HNE := mk_ h1
    by_cases hl : ts.length < 4398046511104
    case neg => rw [if_neg hl] at h; cases h
    rw [if_pos hl] at h
    have HTL := mk_ hl
    by_cases hi : insideB ts id co m = true
    · have HIN := mk_ hi
      rw [if_pos hi] at h
      by_cases h8 : a0 = 8
      · subst h8
        have h0 : ¬ e = 0 := fun h0 => hg ⟨h1, h0, hi, .inl rfl⟩
        rw [if_pos rfl, if_neg h0] at h
        simp only [Option.some.injEq, Prod.mk.injEq] at h
        obtain ⟨rfl, rfl, rfl⟩ := h
        have d1 : (e != 0) = true := bne_iff_ne.mpr h0
        clear h0 hg h1 hl hi
        go_enter Tryd.func27, Tryd.ntmps27
        go_wp2_with (first
            | (clear T1; (with_reducible refine gate_dst (N := 4) rfl ?_); refine bx_ 4 #[.slice A0 ds.length c0, .slice A1 ts.length c1, .int .i64 id, .slice A3 fs.length c3] 28 ?_; intro g1 hg w1 hbox hb; have HB1 := mk_ (below_step HB0.out hb); have BW1 := mk_ hbox; clear hb hbox hg HB0)
            | (clear T2; (with_reducible refine gate_dst (N := 5) rfl ?_); refine bx_ 5 #[.int .i64 8, .string a1, .slice A2 l2.length c2, .int .i64 a3, .int .i64 a4, .slice A5 l5.length c5] 32 ?_; intro g2 hg w2 hbox hb; have HB2 := mk_ (below_step HB1.out hb); have BW2 := mk_ (blk_below BW1.out hb); have BF2 := mk_ hbox; clear hb hbox hg HB1 BW1; have x0 : w2.cell? ⟨g1, 0, none⟩ = some (.slice A0 ds.length c0) := (blk_cell BW2.out 0).trans rfl; have x1 : w2.cell? ⟨g1, 1, none⟩ = some (.slice A1 ts.length c1) := (blk_cell BW2.out 1).trans rfl; have x2 : w2.cell? ⟨g1, 2, none⟩ = some (.int .i64 id) := (blk_cell BW2.out 2).trans rfl; have x3 : w2.cell? ⟨g1, 3, none⟩ = some (.slice A3 fs.length c3) := (blk_cell BW2.out 3).trans rfl; have y0 : w2.cell? ⟨g2, 0, none⟩ = some (.int .i64 8) := (blk_cell BF2.out 0).trans rfl; have y1 : w2.cell? ⟨g2, 1, none⟩ = some (.string a1) := (blk_cell BF2.out 1).trans rfl; have y2 : w2.cell? ⟨g2, 2, none⟩ = some (.slice A2 l2.length c2) := (blk_cell BF2.out 2).trans rfl; have y3 : w2.cell? ⟨g2, 3, none⟩ = some (.int .i64 a3) := (blk_cell BF2.out 3).trans rfl; have y4 : w2.cell? ⟨g2, 4, none⟩ = some (.int .i64 a4) := (blk_cell BF2.out 4).trans rfl; have y5 : w2.cell? ⟨g2, 5, none⟩ = some (.slice A5 l5.length c5) := (blk_cell BF2.out 5).trans rfl)
            | (clear T3; go_at_call 38; refine (load_any k A0 c0 ds A1 c1 ts id A3 c3 fs (⟨8, a1, l2, a3, a4, l5⟩ : S32) A2 c2 A5 c5 e _ (Kd.C_below HR0.out HB2.out) HL.out.1 (Kd.C_below HR1.out HB2.out) HL.out.2.1 (Kd.C_below HR3.out HB2.out) (Kd.C_below HR2.out HB2.out) HL.out.2.2.1 (Kd.C_below HR5.out HB2.out) HL.out.2.2.2 HLD.out).mono ?_; rintro e w3 ⟨hcase, hb⟩; obtain ⟨_, b, rfl, hgb, hmd⟩ := hcase.resolve_left (fun h => HNE.out h.1); have HB3 := mk_ (below_step HB2.out hb); have BF3 := mk_ (blk_below BF2.out hb); have HMD := mk_ hmd; clear hb HB2 hcase hgb hmd; have y'0 : w3.cell? ⟨g2, 0, none⟩ = some (.int .i64 8) := (blk_cell BF3.out 0).trans rfl; have y'1 : w3.cell? ⟨g2, 1, none⟩ = some (.string a1) := (blk_cell BF3.out 1).trans rfl; have y'2 : w3.cell? ⟨g2, 2, none⟩ = some (.slice A2 l2.length c2) := (blk_cell BF3.out 2).trans rfl; have y'3 : w3.cell? ⟨g2, 3, none⟩ = some (.int .i64 a3) := (blk_cell BF3.out 3).trans rfl; have y'4 : w3.cell? ⟨g2, 4, none⟩ = some (.int .i64 a4) := (blk_cell BF3.out 4).trans rfl; have y'5 : w3.cell? ⟨g2, 5, none⟩ = some (.slice A5 l5.length c5) := (blk_cell BF3.out 5).trans rfl)
            | (clear T4; go_at_call 39; refine (inside_any b ds ts id fs co m _ HMD.out HTL.out).mono ?_; rintro e w4 ⟨rfl, rfl⟩; rw [HIN.out]))
        go_ret3
        exact ⟨rfl, HB3.out⟩
      · rw [if_neg h8] at h
        by_cases h9 : a0 = 9
        · subst h9
          have h0 : ¬ e = 0 := fun h0 => hg ⟨h1, h0, hi, .inr rfl⟩
          rw [if_pos rfl, if_neg h0] at h
          simp only [Option.some.injEq, Prod.mk.injEq] at h
          obtain ⟨rfl, rfl, rfl⟩ := h
          have d1 : (e != 0) = true := bne_iff_ne.mpr h0
          clear h0 hg h1 hl hi h8
          go_enter Tryd.func27, Tryd.ntmps27
          go_wp2_with (first
              | (clear T1; (with_reducible refine gate_dst (N := 4) rfl ?_); refine bx_ 4 #[.slice A0 ds.length c0, .slice A1 ts.length c1, .int .i64 id, .slice A3 fs.length c3] 28 ?_; intro g1 hg w1 hbox hb; have HB1 := mk_ (below_step HB0.out hb); have BW1 := mk_ hbox; clear hb hbox hg HB0)
              | (clear T2; (with_reducible refine gate_dst (N := 5) rfl ?_); refine bx_ 5 #[.int .i64 9, .string a1, .slice A2 l2.length c2, .int .i64 a3, .int .i64 a4, .slice A5 l5.length c5] 32 ?_; intro g2 hg w2 hbox hb; have HB2 := mk_ (below_step HB1.out hb); have BW2 := mk_ (blk_below BW1.out hb); have BF2 := mk_ hbox; clear hb hbox hg HB1 BW1; have x0 : w2.cell? ⟨g1, 0, none⟩ = some (.slice A0 ds.length c0) := (blk_cell BW2.out 0).trans rfl; have x1 : w2.cell? ⟨g1, 1, none⟩ = some (.slice A1 ts.length c1) := (blk_cell BW2.out 1).trans rfl; have x2 : w2.cell? ⟨g1, 2, none⟩ = some (.int .i64 id) := (blk_cell BW2.out 2).trans rfl; have x3 : w2.cell? ⟨g1, 3, none⟩ = some (.slice A3 fs.length c3) := (blk_cell BW2.out 3).trans rfl; have y0 : w2.cell? ⟨g2, 0, none⟩ = some (.int .i64 9) := (blk_cell BF2.out 0).trans rfl; have y1 : w2.cell? ⟨g2, 1, none⟩ = some (.string a1) := (blk_cell BF2.out 1).trans rfl; have y2 : w2.cell? ⟨g2, 2, none⟩ = some (.slice A2 l2.length c2) := (blk_cell BF2.out 2).trans rfl; have y3 : w2.cell? ⟨g2, 3, none⟩ = some (.int .i64 a3) := (blk_cell BF2.out 3).trans rfl; have y4 : w2.cell? ⟨g2, 4, none⟩ = some (.int .i64 a4) := (blk_cell BF2.out 4).trans rfl; have y5 : w2.cell? ⟨g2, 5, none⟩ = some (.slice A5 l5.length c5) := (blk_cell BF2.out 5).trans rfl)
              | (clear T3; go_at_call 38; refine (load_any k A0 c0 ds A1 c1 ts id A3 c3 fs (⟨9, a1, l2, a3, a4, l5⟩ : S32) A2 c2 A5 c5 e _ (Kd.C_below HR0.out HB2.out) HL.out.1 (Kd.C_below HR1.out HB2.out) HL.out.2.1 (Kd.C_below HR3.out HB2.out) (Kd.C_below HR2.out HB2.out) HL.out.2.2.1 (Kd.C_below HR5.out HB2.out) HL.out.2.2.2 HLD.out).mono ?_; rintro e w3 ⟨hcase, hb⟩; obtain ⟨_, b, rfl, hgb, hmd⟩ := hcase.resolve_left (fun h => HNE.out h.1); have HB3 := mk_ (below_step HB2.out hb); have BF3 := mk_ (blk_below BF2.out hb); have HMD := mk_ hmd; clear hb HB2 hcase hgb hmd; have y'0 : w3.cell? ⟨g2, 0, none⟩ = some (.int .i64 9) := (blk_cell BF3.out 0).trans rfl; have y'1 : w3.cell? ⟨g2, 1, none⟩ = some (.string a1) := (blk_cell BF3.out 1).trans rfl; have y'2 : w3.cell? ⟨g2, 2, none⟩ = some (.slice A2 l2.length c2) := (blk_cell BF3.out 2).trans rfl; have y'3 : w3.cell? ⟨g2, 3, none⟩ = some (.int .i64 a3) := (blk_cell BF3.out 3).trans rfl; have y'4 : w3.cell? ⟨g2, 4, none⟩ = some (.int .i64 a4) := (blk_cell BF3.out 4).trans rfl; have y'5 : w3.cell? ⟨g2, 5, none⟩ = some (.slice A5 l5.length c5) := (blk_cell BF3.out 5).trans rfl)
              | (clear T4; go_at_call 39; refine (inside_any b ds ts id fs co m _ HMD.out HTL.out).mono ?_; rintro e w4 ⟨rfl, rfl⟩; rw [HIN.out]))
          go_ret3
          exact ⟨rfl, HB3.out⟩
        · rw [if_neg h9] at h
          simp only [Option.some.injEq, Prod.mk.injEq] at h
          obtain ⟨rfl, rfl, rfl⟩ := h
          have d8 : (a0 == 8) = false := beq_eq_false_iff_ne.mpr h8
          have d9 : (a0 == 9) = false := beq_eq_false_iff_ne.mpr h9
          have d8' : (a0 != 8) = true := bne_iff_ne.mpr h8
          have d9' : (a0 != 9) = true := bne_iff_ne.mpr h9
          clear h8 h9 hg h1 hl hi
          go_enter Tryd.func27, Tryd.ntmps27
          go_wp2_with (first
              | (clear T1; (with_reducible refine gate_dst (N := 4) rfl ?_); refine bx_ 4 #[.slice A0 ds.length c0, .slice A1 ts.length c1, .int .i64 id, .slice A3 fs.length c3] 28 ?_; intro g1 hg w1 hbox hb; have HB1 := mk_ (below_step HB0.out hb); have BW1 := mk_ hbox; clear hb hbox hg HB0)
              | (clear T2; (with_reducible refine gate_dst (N := 5) rfl ?_); refine bx_ 5 #[.int .i64 a0, .string a1, .slice A2 l2.length c2, .int .i64 a3, .int .i64 a4, .slice A5 l5.length c5] 32 ?_; intro g2 hg w2 hbox hb; have HB2 := mk_ (below_step HB1.out hb); have BW2 := mk_ (blk_below BW1.out hb); have BF2 := mk_ hbox; clear hb hbox hg HB1 BW1; have x0 : w2.cell? ⟨g1, 0, none⟩ = some (.slice A0 ds.length c0) := (blk_cell BW2.out 0).trans rfl; have x1 : w2.cell? ⟨g1, 1, none⟩ = some (.slice A1 ts.length c1) := (blk_cell BW2.out 1).trans rfl; have x2 : w2.cell? ⟨g1, 2, none⟩ = some (.int .i64 id) := (blk_cell BW2.out 2).trans rfl; have x3 : w2.cell? ⟨g1, 3, none⟩ = some (.slice A3 fs.length c3) := (blk_cell BW2.out 3).trans rfl; have y0 : w2.cell? ⟨g2, 0, none⟩ = some (.int .i64 a0) := (blk_cell BF2.out 0).trans rfl; have y1 : w2.cell? ⟨g2, 1, none⟩ = some (.string a1) := (blk_cell BF2.out 1).trans rfl; have y2 : w2.cell? ⟨g2, 2, none⟩ = some (.slice A2 l2.length c2) := (blk_cell BF2.out 2).trans rfl; have y3 : w2.cell? ⟨g2, 3, none⟩ = some (.int .i64 a3) := (blk_cell BF2.out 3).trans rfl; have y4 : w2.cell? ⟨g2, 4, none⟩ = some (.int .i64 a4) := (blk_cell BF2.out 4).trans rfl; have y5 : w2.cell? ⟨g2, 5, none⟩ = some (.slice A5 l5.length c5) := (blk_cell BF2.out 5).trans rfl)
              | (clear T3; go_at_call 38; refine (load_any k A0 c0 ds A1 c1 ts id A3 c3 fs (⟨a0, a1, l2, a3, a4, l5⟩ : S32) A2 c2 A5 c5 e _ (Kd.C_below HR0.out HB2.out) HL.out.1 (Kd.C_below HR1.out HB2.out) HL.out.2.1 (Kd.C_below HR3.out HB2.out) (Kd.C_below HR2.out HB2.out) HL.out.2.2.1 (Kd.C_below HR5.out HB2.out) HL.out.2.2.2 HLD.out).mono ?_; rintro e w3 ⟨hcase, hb⟩; obtain ⟨_, b, rfl, hgb, hmd⟩ := hcase.resolve_left (fun h => HNE.out h.1); have HB3 := mk_ (below_step HB2.out hb); have BF3 := mk_ (blk_below BF2.out hb); have HMD := mk_ hmd; clear hb HB2 hcase hgb hmd; have y'0 : w3.cell? ⟨g2, 0, none⟩ = some (.int .i64 a0) := (blk_cell BF3.out 0).trans rfl; have y'1 : w3.cell? ⟨g2, 1, none⟩ = some (.string a1) := (blk_cell BF3.out 1).trans rfl; have y'2 : w3.cell? ⟨g2, 2, none⟩ = some (.slice A2 l2.length c2) := (blk_cell BF3.out 2).trans rfl; have y'3 : w3.cell? ⟨g2, 3, none⟩ = some (.int .i64 a3) := (blk_cell BF3.out 3).trans rfl; have y'4 : w3.cell? ⟨g2, 4, none⟩ = some (.int .i64 a4) := (blk_cell BF3.out 4).trans rfl; have y'5 : w3.cell? ⟨g2, 5, none⟩ = some (.slice A5 l5.length c5) := (blk_cell BF3.out 5).trans rfl)
              | (clear T4; go_at_call 39; refine (inside_any b ds ts id fs co m _ HMD.out HTL.out).mono ?_; rintro e w4 ⟨rfl, rfl⟩; rw [HIN.out]))
          go_ret3
          exact ⟨rfl, HB3.out⟩
    · rw [if_neg hi] at h
      simp only [Option.some.injEq, Prod.mk.injEq] at h
      obtain ⟨rfl, rfl, rfl⟩ := h
      have HIN := mk_ (Bool.eq_false_iff.mpr hi)
      clear hi hg h1 hl
      go_enter Tryd.func27, Tryd.ntmps27
      go_wp2_with (first
          | (clear T1; (with_reducible refine gate_dst (N := 4) rfl ?_); refine bx_ 4 #[.slice A0 ds.length c0, .slice A1 ts.length c1, .int .i64 id, .slice A3 fs.length c3] 28 ?_; intro g1 hg w1 hbox hb; have HB1 := mk_ (below_step HB0.out hb); have BW1 := mk_ hbox; clear hb hbox hg HB0)
          | (clear T2; (with_reducible refine gate_dst (N := 5) rfl ?_); refine bx_ 5 #[.int .i64 a0, .string a1, .slice A2 l2.length c2, .int .i64 a3, .int .i64 a4, .slice A5 l5.length c5] 32 ?_; intro g2 hg w2 hbox hb; have HB2 := mk_ (below_step HB1.out hb); have BW2 := mk_ (blk_below BW1.out hb); have BF2 := mk_ hbox; clear hb hbox hg HB1 BW1; have x0 : w2.cell? ⟨g1, 0, none⟩ = some (.slice A0 ds.length c0) := (blk_cell BW2.out 0).trans rfl; have x1 : w2.cell? ⟨g1, 1, none⟩ = some (.slice A1 ts.length c1) := (blk_cell BW2.out 1).trans rfl; have x2 : w2.cell? ⟨g1, 2, none⟩ = some (.int .i64 id) := (blk_cell BW2.out 2).trans rfl; have x3 : w2.cell? ⟨g1, 3, none⟩ = some (.slice A3 fs.length c3) := (blk_cell BW2.out 3).trans rfl; have y0 : w2.cell? ⟨g2, 0, none⟩ = some (.int .i64 a0) := (blk_cell BF2.out 0).trans rfl; have y1 : w2.cell? ⟨g2, 1, none⟩ = some (.string a1) := (blk_cell BF2.out 1).trans rfl; have y2 : w2.cell? ⟨g2, 2, none⟩ = some (.slice A2 l2.length c2) := (blk_cell BF2.out 2).trans rfl; have y3 : w2.cell? ⟨g2, 3, none⟩ = some (.int .i64 a3) := (blk_cell BF2.out 3).trans rfl; have y4 : w2.cell? ⟨g2, 4, none⟩ = some (.int .i64 a4) := (blk_cell BF2.out 4).trans rfl; have y5 : w2.cell? ⟨g2, 5, none⟩ = some (.slice A5 l5.length c5) := (blk_cell BF2.out 5).trans rfl)
          | (clear T3; go_at_call 38; refine (load_any k A0 c0 ds A1 c1 ts id A3 c3 fs (⟨a0, a1, l2, a3, a4, l5⟩ : S32) A2 c2 A5 c5 e _ (Kd.C_below HR0.out HB2.out) HL.out.1 (Kd.C_below HR1.out HB2.out) HL.out.2.1 (Kd.C_below HR3.out HB2.out) (Kd.C_below HR2.out HB2.out) HL.out.2.2.1 (Kd.C_below HR5.out HB2.out) HL.out.2.2.2 HLD.out).mono ?_; rintro e w3 ⟨hcase, hb⟩; obtain ⟨_, b, rfl, hgb, hmd⟩ := hcase.resolve_left (fun h => HNE.out h.1); have HB3 := mk_ (below_step HB2.out hb); have BF3 := mk_ (blk_below BF2.out hb); have HMD := mk_ hmd; clear hb HB2 hcase hgb hmd; have y'0 : w3.cell? ⟨g2, 0, none⟩ = some (.int .i64 a0) := (blk_cell BF3.out 0).trans rfl; have y'1 : w3.cell? ⟨g2, 1, none⟩ = some (.string a1) := (blk_cell BF3.out 1).trans rfl; have y'2 : w3.cell? ⟨g2, 2, none⟩ = some (.slice A2 l2.length c2) := (blk_cell BF3.out 2).trans rfl; have y'3 : w3.cell? ⟨g2, 3, none⟩ = some (.int .i64 a3) := (blk_cell BF3.out 3).trans rfl; have y'4 : w3.cell? ⟨g2, 4, none⟩ = some (.int .i64 a4) := (blk_cell BF3.out 4).trans rfl; have y'5 : w3.cell? ⟨g2, 5, none⟩ = some (.slice A5 l5.length c5) := (blk_cell BF3.out 5).trans rfl)
          | (clear T4; go_at_call 39; refine (inside_any b ds ts id fs co m _ HMD.out HTL.out).mono ?_; rintro e w4 ⟨rfl, rfl⟩; rw [HIN.out]))
      go_ret3
      exact ⟨rfl, HB3.out⟩
def pentaglotlaw26_example.f  : Option ((List (S73)) × List Int × Int × (List (S62))) := some ((([(⟨(⟨#[112, 101, 114, 115, 111, 110]⟩ : ByteArray), (([(⟨#[109, 97, 114, 116, 97]⟩ : ByteArray), (⟨#[112, 101, 114, 115, 111, 110, 35, 49]⟩ : ByteArray)] : List ByteArray))⟩ : S73)] : List (S73))), (([60] : List Int)), 1, (([(⟨(⟨#[119, 97, 105, 116]⟩ : ByteArray), (([(⟨#[109, 97, 114, 116, 97]⟩ : ByteArray)] : List ByteArray)), 1, 0⟩ : S62), (⟨(⟨#[119, 97, 105, 116]⟩ : ByteArray), (([(⟨#[112, 101, 114, 115, 111, 110, 35, 49]⟩ : ByteArray)] : List ByteArray)), 1, 1⟩ : S62)] : List (S62))))
theorem pentaglotlaw26_example.calls  (r1 : List (S73)) (r2 : List Int) (r3 : Int) (r4 : List (S62)) (w : World) (h : pentaglotlaw26_example.f  = some (r1, r2, r3, r4)) :
    Calls Tryd.prog 33 #[] w fun e w' => ∃ v0_ v1_ v3_ : Value, e = .returned (.agg #[v0_, v1_, .int .i64 r3, v3_]) ∧ Kd.N k73 73 w' w.heap.size (fun k_ => (w.heap.size ≤ k_) ∧ some k_ ≠ (v1_ : Value).ownBlock ∧ some k_ ≠ (v3_ : Value).ownBlock) v0_ r1 ∧ Kd.R (Kd.int .i64) 3 w' w.heap.size (fun k_ => (w.heap.size ≤ k_)) v1_ r2 ∧ Kd.N k62 62 w' w.heap.size (fun k_ => (w.heap.size ≤ k_) ∧ some k_ ≠ (v0_ : Value).ownBlock ∧ some k_ ≠ (v1_ : Value).ownBlock) v3_ r4 ∧ Below w.heap.size w w' := by
  have hu28 := Tryd.underlying28
  have hu73 := Tryd.underlying73
  have hu25 := Tryd.underlying25
  have hu62 := Tryd.underlying62
  have HB := mk_ (Below.refl w.heap.size w)
  have H : (some ((([(⟨(⟨#[112, 101, 114, 115, 111, 110]⟩ : ByteArray), (([(⟨#[109, 97, 114, 116, 97]⟩ : ByteArray), (⟨#[112, 101, 114, 115, 111, 110, 35, 49]⟩ : ByteArray)] : List ByteArray))⟩ : S73)] : List (S73))), (([60] : List Int)), 1, (([(⟨(⟨#[119, 97, 105, 116]⟩ : ByteArray), (([(⟨#[109, 97, 114, 116, 97]⟩ : ByteArray)] : List ByteArray)), 1, 0⟩ : S62), (⟨(⟨#[119, 97, 105, 116]⟩ : ByteArray), (([(⟨#[112, 101, 114, 115, 111, 110, 35, 49]⟩ : ByteArray)] : List ByteArray)), 1, 1⟩ : S62)] : List (S62))))) = some (r1, r2, r3, r4) := h
  clear h
  obtain ⟨y179, hy179⟩ : ∃ y_ : List ByteArray, y_ = (([(⟨#[109, 97, 114, 116, 97]⟩ : ByteArray), (⟨#[112, 101, 114, 115, 111, 110, 35, 49]⟩ : ByteArray)] : List ByteArray)) := ⟨_, rfl⟩
  replace H : (some ((([(⟨(⟨#[112, 101, 114, 115, 111, 110]⟩ : ByteArray), y179⟩ : S73)] : List (S73))), (([60] : List Int)), 1, (([(⟨(⟨#[119, 97, 105, 116]⟩ : ByteArray), (([(⟨#[109, 97, 114, 116, 97]⟩ : ByteArray)] : List ByteArray)), 1, 0⟩ : S62), (⟨(⟨#[119, 97, 105, 116]⟩ : ByteArray), (([(⟨#[112, 101, 114, 115, 111, 110, 35, 49]⟩ : ByteArray)] : List ByteArray)), 1, 1⟩ : S62)] : List (S62))))) = some (r1, r2, r3, r4) := by first | (rw [hy179]; with_reducible exact H) | (have H2_ := (Option.bind_some _ _).symm.trans H; rw [hy179]; with_reducible exact H2_) | (have H2_ := (Option.bind_some _ _).symm.trans H; with_reducible exact H2_) | with_reducible exact H | (rw [hy179]; exact H) | exact H
  have Ny179 := mk_ hy179
  clear hy179
  obtain ⟨y182, hy182⟩ : ∃ y_ : List (S73), y_ = (([(⟨(⟨#[112, 101, 114, 115, 111, 110]⟩ : ByteArray), y179⟩ : S73)] : List (S73))) := ⟨_, rfl⟩
  replace H : (some (y182, (([60] : List Int)), 1, (([(⟨(⟨#[119, 97, 105, 116]⟩ : ByteArray), (([(⟨#[109, 97, 114, 116, 97]⟩ : ByteArray)] : List ByteArray)), 1, 0⟩ : S62), (⟨(⟨#[119, 97, 105, 116]⟩ : ByteArray), (([(⟨#[112, 101, 114, 115, 111, 110, 35, 49]⟩ : ByteArray)] : List ByteArray)), 1, 1⟩ : S62)] : List (S62))))) = some (r1, r2, r3, r4) := by first | (rw [hy182]; with_reducible exact H) | (have H2_ := (Option.bind_some _ _).symm.trans H; rw [hy182]; with_reducible exact H2_) | (have H2_ := (Option.bind_some _ _).symm.trans H; with_reducible exact H2_) | with_reducible exact H | (rw [hy182]; exact H) | exact H
  have Ny182 := mk_ hy182
  clear hy182
  obtain ⟨y185, hy185⟩ : ∃ y_ : List Int, y_ = (([60] : List Int)) := ⟨_, rfl⟩
  replace H : (some (y182, y185, 1, (([(⟨(⟨#[119, 97, 105, 116]⟩ : ByteArray), (([(⟨#[109, 97, 114, 116, 97]⟩ : ByteArray)] : List ByteArray)), 1, 0⟩ : S62), (⟨(⟨#[119, 97, 105, 116]⟩ : ByteArray), (([(⟨#[112, 101, 114, 115, 111, 110, 35, 49]⟩ : ByteArray)] : List ByteArray)), 1, 1⟩ : S62)] : List (S62))))) = some (r1, r2, r3, r4) := by first | (rw [hy185]; with_reducible exact H) | (have H2_ := (Option.bind_some _ _).symm.trans H; rw [hy185]; with_reducible exact H2_) | (have H2_ := (Option.bind_some _ _).symm.trans H; with_reducible exact H2_) | with_reducible exact H | (rw [hy185]; exact H) | exact H
  have Ny185 := mk_ hy185
  clear hy185
  obtain ⟨y189, hy189⟩ : ∃ y_ : List ByteArray, y_ = (([(⟨#[109, 97, 114, 116, 97]⟩ : ByteArray)] : List ByteArray)) := ⟨_, rfl⟩
  replace H : (some (y182, y185, 1, (([(⟨(⟨#[119, 97, 105, 116]⟩ : ByteArray), y189, 1, 0⟩ : S62), (⟨(⟨#[119, 97, 105, 116]⟩ : ByteArray), (([(⟨#[112, 101, 114, 115, 111, 110, 35, 49]⟩ : ByteArray)] : List ByteArray)), 1, 1⟩ : S62)] : List (S62))))) = some (r1, r2, r3, r4) := by first | (rw [hy189]; with_reducible exact H) | (have H2_ := (Option.bind_some _ _).symm.trans H; rw [hy189]; with_reducible exact H2_) | (have H2_ := (Option.bind_some _ _).symm.trans H; with_reducible exact H2_) | with_reducible exact H | (rw [hy189]; exact H) | exact H
  have Ny189 := mk_ hy189
  clear hy189
  obtain ⟨y192, hy192⟩ : ∃ y_ : List ByteArray, y_ = (([(⟨#[112, 101, 114, 115, 111, 110, 35, 49]⟩ : ByteArray)] : List ByteArray)) := ⟨_, rfl⟩
  replace H : (some (y182, y185, 1, (([(⟨(⟨#[119, 97, 105, 116]⟩ : ByteArray), y189, 1, 0⟩ : S62), (⟨(⟨#[119, 97, 105, 116]⟩ : ByteArray), y192, 1, 1⟩ : S62)] : List (S62))))) = some (r1, r2, r3, r4) := by first | (rw [hy192]; with_reducible exact H) | (have H2_ := (Option.bind_some _ _).symm.trans H; rw [hy192]; with_reducible exact H2_) | (have H2_ := (Option.bind_some _ _).symm.trans H; with_reducible exact H2_) | with_reducible exact H | (rw [hy192]; exact H) | exact H
  have Ny192 := mk_ hy192
  clear hy192
  obtain ⟨y195, hy195⟩ : ∃ y_ : List (S62), y_ = (([(⟨(⟨#[119, 97, 105, 116]⟩ : ByteArray), y189, 1, 0⟩ : S62), (⟨(⟨#[119, 97, 105, 116]⟩ : ByteArray), y192, 1, 1⟩ : S62)] : List (S62))) := ⟨_, rfl⟩
  replace H : (some (y182, y185, 1, y195)) = some (r1, r2, r3, r4) := by first | (rw [hy195]; with_reducible exact H) | (have H2_ := (Option.bind_some _ _).symm.trans H; rw [hy195]; with_reducible exact H2_) | (have H2_ := (Option.bind_some _ _).symm.trans H; with_reducible exact H2_) | with_reducible exact H | (rw [hy195]; exact H) | exact H
  have Ny195 := mk_ hy195
  clear hy195
  simp only [Option.some.injEq, Prod.mk.injEq] at H
  obtain ⟨rfl, rfl, rfl, rfl⟩ := H
  go_enter Tryd.func33, Tryd.ntmps33
  go_wp2_with (first | ((with_reducible refine gate_dst (N := 0) rfl ?_); refine bx_ 0 #[.slice none 0 0, .slice none 0 0, .int .i64 0, .slice none 0 0] 28 ?_; intro gb178 hg w1 hbox hb; have BK178 := mk_ (hbox); have GW178 := mk_ (gs_ hg (be_ HB)); have GE178 := mk_ (gs_ hg (be_ HB)); replace HB := mk_ (below_step (be_ HB) hb); clear hb hbox hg) | ((with_reducible refine gate_dst (N := 2) rfl ?_); refine Kd.R_lit Kd.string _ 9 ?hg (N := 2) ?hd (xs := ([(⟨#[109, 97, 114, 116, 97]⟩ : ByteArray), (⟨#[112, 101, 114, 115, 111, 110, 35, 49]⟩ : ByteArray)] : List ByteArray)) (inner := [.string (⟨#[109, 97, 114, 116, 97]⟩ : ByteArray), .string (⟨#[112, 101, 114, 115, 111, 110, 35, 49]⟩ : ByteArray)]) (ok := fun _ => True) (okp := fun _ => True) ?hr ?hp (fun _ hk => hk) trivial (Below.refl _ _) (Nat.le_refl _) (by simp) ?_; (case hd => rfl); (case hg => rfl); (case hr => first | (go_simp; done) | (go_simp; rfl)); (case hp => exact (Reps.one (show Kd.M Kd.string _ _ _ (⟨#[109, 97, 114, 116, 97]⟩ : ByteArray) [.string (⟨#[109, 97, 114, 116, 97]⟩ : ByteArray)] from rfl) (Reps.one (show Kd.M Kd.string _ _ _ (⟨#[112, 101, 114, 115, 111, 110, 35, 49]⟩ : ByteArray) [.string (⟨#[112, 101, 114, 115, 111, 110, 35, 49]⟩ : ByteArray)] from rfl) (Reps.none _ _)))); intro v180 w2 ho3 hb hg_ hnew_; clear hg_ hnew_; (first | rw [← Ny179.out] at ho3 | (simp only [Int.reduceToNat] at ho3; rw [← Ny179.out] at ho3)); have HO181 := mk_ (Kd.R_lower (Kd.R_newM (M := fun k_ => (w.heap.size ≤ k_)) ho3 (below_size (be1_ HB GE178)) (fun k_ h_ => h_)) (below_size (be1_ HB GE178))); replace BK178 := mk_ (bb_ BK178 hb); replace HB := mk_ (below_step (be1_ HB GE178) hb); clear hb ho3; obtain ⟨Ao4, co4, eo4⟩ := Kd.R_slice HO181.out; subst eo4) | ((with_reducible refine gate_dst (N := 4) rfl ?_); refine Kd.N_lit k73 _ 73 ?hg (N' := 4) ?hd (xs := ([(⟨(⟨#[112, 101, 114, 115, 111, 110]⟩ : ByteArray), y179⟩ : S73)] : List (S73))) (inner := [.string (⟨#[112, 101, 114, 115, 111, 110]⟩ : ByteArray), .slice Ao4 y179.length co4]) (ok := (fun k_ => (w.heap.size ≤ k_) ∧ k_ ≠ gb178)) (okp := (fun k_ => (w.heap.size ≤ k_) ∧ k_ ≠ gb178)) ?hr ?hp (fun _ hk => hk) ((show ∀ k_, w2.heap.size ≤ k_ → (fun k_ => (w.heap.size ≤ k_) ∧ k_ ≠ gb178) k_ from fun k_ hk => ⟨(Nat.le_trans (below_size (be1_ HB GE178)) hk), Kd.freshB (g := gb178) (o := .cells #[.slice none 0 0, .slice none 0 0, .int .i64 0, .slice none 0 0] 28 (0, 0)) (bq_ BK178) k_ hk⟩) _ (Nat.le_refl _)) (Below.refl _ _) (Nat.le_refl _) (by simp) ?_; (case hd => rfl); (case hg => rfl); (case hr => first | (go_simp; done) | (go_simp; rfl)); (case hp => exact (Reps.c2 (show Kd.FK k73 _ _ (⟨(⟨#[112, 101, 114, 115, 111, 110]⟩ : ByteArray), y179⟩ : S73) [.string (⟨#[112, 101, 114, 115, 111, 110]⟩ : ByteArray), .slice Ao4 y179.length co4] from (k73_mkF _ _ (⟨(⟨#[112, 101, 114, 115, 111, 110]⟩ : ByteArray), y179⟩ : S73) (Kd.R_reads' (Kd.R_mono (ok' := (fun k_ => (w.heap.size ≤ k_) ∧ k_ ≠ gb178)) (Kd.R_types (HO181.out) BK178.out (by decide)) (fun k_ hk => ⟨hk.1.1, hk.2⟩))).2.1 (Kd.R_F (Kd.R_mono (ok' := (fun k_ => (w.heap.size ≤ k_) ∧ k_ ≠ gb178)) (Kd.R_types (HO181.out) BK178.out (by decide)) (fun k_ hk => ⟨hk.1.1, hk.2⟩))))) (Reps.none _ _))); intro v183 w5 ho6 hb hg_ hnew_; clear hg_ hnew_; (first | rw [← Ny182.out] at ho6 | (simp only [Int.reduceToNat] at ho6; rw [← Ny182.out] at ho6)); have HO184 := mk_ (Kd.N_lower ho6 (below_size (be1_ HB GE178))); replace BK178 := mk_ (bb_ BK178 hb); replace HB := mk_ (below_step (be1_ HB GE178) hb); clear HO181; clear hb ho6) | ((with_reducible refine gate_dst (N := 5) rfl ?_); refine Kd.R_lit (Kd.int .i64) _ 3 ?hg (N := 5) ?hd (xs := ([60] : List Int)) (inner := [.int .i64 60]) (ok := fun _ => True) (okp := fun _ => True) ?hr ?hp (fun _ hk => hk) trivial (Below.refl _ _) (Nat.le_refl _) (by simp) ?_; (case hd => rfl); (case hg => rfl); (case hr => first | (go_simp; done) | (go_simp; rfl)); (case hp => exact (Reps.one (show Kd.M (Kd.int .i64) _ _ _ 60 [.int .i64 60] from rfl) (Reps.none _ _))); intro v186 w7 ho8 hb hg_ hnew_; clear hg_ hnew_; (first | rw [← Ny185.out] at ho8 | (simp only [Int.reduceToNat] at ho8; rw [← Ny185.out] at ho8)); have HO187 := mk_ (Kd.R_lower (Kd.R_newM (M := fun k_ => (w.heap.size ≤ k_)) ho8 (below_size (be1_ HB GE178)) (fun k_ h_ => h_)) (below_size (be1_ HB GE178))); replace HO184 := mk_ (Kd.N_elder' (nq_ HO184) (Kd.R_base ho8) hb); replace BK178 := mk_ (bb_ BK178 hb); replace HB := mk_ (below_step (be1_ HB GE178) hb); clear hb ho8; obtain ⟨Ao9, co9, eo9⟩ := Kd.R_slice HO187.out; subst eo9; obtain ⟨Ao10, co10, eo10⟩ := Kd.N_slice HO184.out; subst eo10) | ((with_reducible refine gate_dst (N := 1) rfl ?_); refine bx_ 1 #[.slice none 0 0, .slice none 0 0, .int .i64 0] 25 ?_; intro gb188 hg w11 hbox hb; have n0_ := mk_ (Kd.N_below (Kd.N_elderB (nq_ HO184) gb188 (Nat.le_of_eq hg.symm)) hb); have n1_ := mk_ (Kd.R_below (rq_ HO187) hb); have n2_ := mk_ (bb_ BK178 hb); have n3_ := mk_ (below_step (be1_ HB GE178) hb); have n4_ := mk_ (hbox); have n5_ := mk_ (gs_ hg (be1_ HB GE178)); have n6_ := mk_ (gs_ hg (be1_ HB GE178)); have n7_ := mk_ ((by rw [hg]; exact Nat.ne_of_lt (blk_lt (g := gb178) (o := .cells #[.slice none 0 0, .slice none 0 0, .int .i64 0, .slice none 0 0] 28 (0, 0)) (bq_ BK178)) : gb178 ≠ gb188)); have n8_ := mk_ ((by rw [hg]; exact Nat.ne_of_gt (blk_lt (g := gb178) (o := .cells #[.slice none 0 0, .slice none 0 0, .int .i64 0, .slice none 0 0] 28 (0, 0)) (bq_ BK178)) : gb188 ≠ gb178)); clear HO184; clear HO187; clear BK178; clear HB; have HO184 := n0_; have HO187 := n1_; have BK178 := n2_; have HB := n3_; have BK188 := n4_; have GW188 := n5_; have GE188 := n6_; have NB178_188 := n7_; have NB188_178 := n8_; clear n0_ n1_ n2_ n3_ n4_ n5_ n6_ n7_ n8_; clear hb hbox hg; have hnb12 := NB188_178.out; have hnc12 := NB178_188.out; obtain ⟨_, _, _, _, _, _⟩ := hb3_ BK188) | ((with_reducible refine gate_dst (N := 8) rfl ?_); refine Kd.R_lit Kd.string _ 9 ?hg (N := 8) ?hd (xs := ([(⟨#[109, 97, 114, 116, 97]⟩ : ByteArray)] : List ByteArray)) (inner := [.string (⟨#[109, 97, 114, 116, 97]⟩ : ByteArray)]) (ok := fun _ => True) (okp := fun _ => True) ?hr ?hp (fun _ hk => hk) trivial (Below.refl _ _) (Nat.le_refl _) (by simp) ?_; (case hd => rfl); (case hg => rfl); (case hr => first | (go_simp; done) | (go_simp; rfl)); (case hp => exact (Reps.one (show Kd.M Kd.string _ _ _ (⟨#[109, 97, 114, 116, 97]⟩ : ByteArray) [.string (⟨#[109, 97, 114, 116, 97]⟩ : ByteArray)] from rfl) (Reps.none _ _))); intro v190 w14 ho15 hb hg_ hnew_; clear hg_ hnew_; (first | rw [← Ny189.out] at ho15 | (simp only [Int.reduceToNat] at ho15; rw [← Ny189.out] at ho15)); have n0_ := mk_ (Kd.N_elder' (by refine sn_ ?_; exact (Kd.N_mono (Kd.N_far (p := ⟨gb188, 2, none⟩) (Kd.N_far (p := ⟨gb188, 1, none⟩) (Kd.N_far (p := ⟨gb188, 0, none⟩) (Kd.N_mono HO184.out (fun k_ hk => (⟨hk, hk.2⟩ : _ ∧ k_ ≠ gb188))) (fun _ hk => hk.2) (.slice Ao10 y182.length co10)) (fun _ hk => hk.2) (.slice Ao9 y185.length co9)) (fun _ hk => hk.2) (.int .i64 1)) (fun _ h_ => h_.1))) (Kd.R_base ho15) hb); have n1_ := mk_ (Kd.R_below (by refine sr_ ?_; exact (Kd.R_mono (Kd.R_far (p := ⟨gb188, 2, none⟩) (Kd.R_far (p := ⟨gb188, 1, none⟩) (Kd.R_far (p := ⟨gb188, 0, none⟩) (Kd.R_types HO187.out BK188.out (by decide)) (fun _ hk => hk.2) (.slice Ao10 y182.length co10)) (fun _ hk => hk.2) (.slice Ao9 y185.length co9)) (fun _ hk => hk.2) (.int .i64 1)) (fun _ h_ => h_.1))) hb); have n2_ := mk_ (Kd.R_lower (Kd.R_newM (M := fun k_ => (w.heap.size ≤ k_)) ho15 (below_size (be2_ HB GE178 GE188)) (fun k_ h_ => h_)) (below_size (be2_ HB GE178 GE188))); have n3_ := mk_ (blk_below (g := gb178) (o := .cells #[.slice none 0 0, .slice none 0 0, .int .i64 0, .slice none 0 0] 28 (0, 0)) (by refine sb_ ?_; refine blk_far ?_ NB178_188.out _; refine sb_ ?_; refine blk_far ?_ NB178_188.out _; refine sb_ ?_; refine blk_far ?_ NB178_188.out _; refine sb_ ?_; exact BK178.out) hb); have n4_ := mk_ (blk_below (g := gb188) (o := .cells #[.slice Ao10 y182.length co10, .slice Ao9 y185.length co9, .int .i64 1] 25 (0, 0)) (by refine sb_ ?_; refine blk_put (cs := #[.slice Ao10 y182.length co10, .slice Ao9 y185.length co9, .int .i64 0]) ?_ 2 _ rfl; refine sb_ ?_; refine blk_put (cs := #[.slice Ao10 y182.length co10, .slice none 0 0, .int .i64 0]) ?_ 1 _ rfl; refine sb_ ?_; refine blk_put (cs := #[.slice none 0 0, .slice none 0 0, .int .i64 0]) ?_ 0 _ rfl; refine sb_ ?_; exact BK188.out) hb); have n5_ := mk_ (below_step (be2_ HB GE178 GE188) hb); clear HO184; clear HO187; clear BK178; clear BK188; clear HB; have HO184 := n0_; have HO187 := n1_; have HO191 := n2_; have BK178 := n3_; have BK188 := n4_; have HB := n5_; clear n0_ n1_ n2_ n3_ n4_ n5_; clear hb ho15; obtain ⟨Ao16, co16, eo16⟩ := Kd.R_slice HO191.out; subst eo16) | ((with_reducible refine gate_dst (N := 10) rfl ?_); refine Kd.R_lit Kd.string _ 9 ?hg (N := 10) ?hd (xs := ([(⟨#[112, 101, 114, 115, 111, 110, 35, 49]⟩ : ByteArray)] : List ByteArray)) (inner := [.string (⟨#[112, 101, 114, 115, 111, 110, 35, 49]⟩ : ByteArray)]) (ok := fun _ => True) (okp := fun _ => True) ?hr ?hp (fun _ hk => hk) trivial (Below.refl _ _) (Nat.le_refl _) (by simp) ?_; (case hd => rfl); (case hg => rfl); (case hr => first | (go_simp; done) | (go_simp; rfl)); (case hp => exact (Reps.one (show Kd.M Kd.string _ _ _ (⟨#[112, 101, 114, 115, 111, 110, 35, 49]⟩ : ByteArray) [.string (⟨#[112, 101, 114, 115, 111, 110, 35, 49]⟩ : ByteArray)] from rfl) (Reps.none _ _))); intro v193 w17 ho18 hb hg_ hnew_; clear hg_ hnew_; (first | rw [← Ny192.out] at ho18 | (simp only [Int.reduceToNat] at ho18; rw [← Ny192.out] at ho18)); have HO194 := mk_ (Kd.R_lower (Kd.R_new' (Kd.R_newM (M := fun k_ => (w.heap.size ≤ k_)) ho18 (below_size (be2_ HB GE178 GE188)) (fun k_ h_ => h_)) (Kd.R_lt (rq_ HO191))) (below_size (be2_ HB GE178 GE188))); replace HO184 := mk_ (Kd.N_elder' (nq_ HO184) (Kd.R_base ho18) hb); replace HO187 := mk_ (Kd.R_below (rq_ HO187) hb); replace HO191 := mk_ (Kd.R_elder' (rq_ HO191) (Kd.R_base ho18) hb); replace BK178 := mk_ (bb_ BK178 hb); replace BK188 := mk_ (bb_ BK188 hb); replace HB := mk_ (below_step (be2_ HB GE178 GE188) hb); clear hb ho18; obtain ⟨Ao19, co19, eo19⟩ := Kd.R_slice HO194.out; subst eo19) | ((with_reducible refine gate_dst (N := 12) rfl ?_); refine Kd.N_lit k62 _ 62 ?hg (N' := 12) ?hd (xs := ([(⟨(⟨#[119, 97, 105, 116]⟩ : ByteArray), y189, 1, 0⟩ : S62), (⟨(⟨#[119, 97, 105, 116]⟩ : ByteArray), y192, 1, 1⟩ : S62)] : List (S62))) (inner := [.string (⟨#[119, 97, 105, 116]⟩ : ByteArray), .slice Ao16 y189.length co16, .int .i64 1, .int .i64 0, .string (⟨#[119, 97, 105, 116]⟩ : ByteArray), .slice Ao19 y192.length co19, .int .i64 1, .int .i64 1]) (ok := (fun k_ => (w.heap.size ≤ k_) ∧ some k_ ≠ (.slice Ao10 y182.length co10 : Value).ownBlock ∧ some k_ ≠ (.slice Ao9 y185.length co9 : Value).ownBlock ∧ k_ ≠ gb178 ∧ k_ ≠ gb188)) (okp := (fun k_ => (w.heap.size ≤ k_) ∧ some k_ ≠ (.slice Ao10 y182.length co10 : Value).ownBlock ∧ some k_ ≠ (.slice Ao9 y185.length co9 : Value).ownBlock ∧ k_ ≠ gb178 ∧ k_ ≠ gb188)) ?hr ?hp (fun _ hk => hk) ((show ∀ k_, w17.heap.size ≤ k_ → (fun k_ => (w.heap.size ≤ k_) ∧ some k_ ≠ (.slice Ao10 y182.length co10 : Value).ownBlock ∧ some k_ ≠ (.slice Ao9 y185.length co9 : Value).ownBlock ∧ k_ ≠ gb178 ∧ k_ ≠ gb188) k_ from fun k_ hk => ⟨(Nat.le_trans (below_size (be2_ HB GE178 GE188)) hk), Kd.fresh' (Kd.N_lt (nq_ HO184)) k_ hk, Kd.fresh' (Kd.R_lt (rq_ HO187)) k_ hk, Kd.freshB (g := gb178) (o := .cells #[.slice none 0 0, .slice none 0 0, .int .i64 0, .slice none 0 0] 28 (0, 0)) (bq_ BK178) k_ hk, Kd.freshB (g := gb188) (o := .cells #[.slice Ao10 y182.length co10, .slice Ao9 y185.length co9, .int .i64 1] 25 (0, 0)) (bq_ BK188) k_ hk⟩) _ (Nat.le_refl _)) (Below.refl _ _) (Nat.le_refl _) (by simp) ?_; (case hd => rfl); (case hg => rfl); (case hr => first | (go_simp; done) | (go_simp; rfl)); (case hp => exact (Reps.c4 (show Kd.FK k62 _ _ (⟨(⟨#[119, 97, 105, 116]⟩ : ByteArray), y189, 1, 0⟩ : S62) [.string (⟨#[119, 97, 105, 116]⟩ : ByteArray), .slice Ao16 y189.length co16, .int .i64 1, .int .i64 0] from (k62_mkF _ _ (⟨(⟨#[119, 97, 105, 116]⟩ : ByteArray), y189, 1, 0⟩ : S62) (Kd.R_reads' (Kd.R_mono (ok' := (fun k_ => (w.heap.size ≤ k_) ∧ some k_ ≠ (.slice Ao10 y182.length co10 : Value).ownBlock ∧ some k_ ≠ (.slice Ao9 y185.length co9 : Value).ownBlock ∧ k_ ≠ gb178 ∧ k_ ≠ gb188)) (Kd.R_types (Kd.R_types (Kd.R_apart' (Kd.R_apart' (HO191.out) (Kd.N_typed HO184.out) (by decide)) (Kd.R_typed HO187.out) (by decide)) BK178.out (by decide)) BK188.out (by decide)) (fun k_ hk => ⟨hk.1.1.1.1.1.1, ⟨hk.1.1.1.2, ⟨hk.1.1.2, ⟨hk.1.2, hk.2⟩⟩⟩⟩))).2.1 (Kd.R_F (Kd.R_mono (ok' := (fun k_ => (w.heap.size ≤ k_) ∧ some k_ ≠ (.slice Ao10 y182.length co10 : Value).ownBlock ∧ some k_ ≠ (.slice Ao9 y185.length co9 : Value).ownBlock ∧ k_ ≠ gb178 ∧ k_ ≠ gb188)) (Kd.R_types (Kd.R_types (Kd.R_apart' (Kd.R_apart' (HO191.out) (Kd.N_typed HO184.out) (by decide)) (Kd.R_typed HO187.out) (by decide)) BK178.out (by decide)) BK188.out (by decide)) (fun k_ hk => ⟨hk.1.1.1.1.1.1, ⟨hk.1.1.1.2, ⟨hk.1.1.2, ⟨hk.1.2, hk.2⟩⟩⟩⟩))))) (Reps.c4 (show Kd.FK k62 _ _ (⟨(⟨#[119, 97, 105, 116]⟩ : ByteArray), y192, 1, 1⟩ : S62) [.string (⟨#[119, 97, 105, 116]⟩ : ByteArray), .slice Ao19 y192.length co19, .int .i64 1, .int .i64 1] from (k62_mkF _ _ (⟨(⟨#[119, 97, 105, 116]⟩ : ByteArray), y192, 1, 1⟩ : S62) (Kd.R_reads' (Kd.R_mono (ok' := (fun k_ => (w.heap.size ≤ k_) ∧ some k_ ≠ (.slice Ao10 y182.length co10 : Value).ownBlock ∧ some k_ ≠ (.slice Ao9 y185.length co9 : Value).ownBlock ∧ k_ ≠ gb178 ∧ k_ ≠ gb188)) (Kd.R_types (Kd.R_types (Kd.R_apart' (Kd.R_apart' (HO194.out) (Kd.N_typed HO184.out) (by decide)) (Kd.R_typed HO187.out) (by decide)) BK178.out (by decide)) BK188.out (by decide)) (fun k_ hk => ⟨hk.1.1.1.1.1.1, ⟨hk.1.1.1.2, ⟨hk.1.1.2, ⟨hk.1.2, hk.2⟩⟩⟩⟩))).2.1 (Kd.R_F (Kd.R_mono (ok' := (fun k_ => (w.heap.size ≤ k_) ∧ some k_ ≠ (.slice Ao10 y182.length co10 : Value).ownBlock ∧ some k_ ≠ (.slice Ao9 y185.length co9 : Value).ownBlock ∧ k_ ≠ gb178 ∧ k_ ≠ gb188)) (Kd.R_types (Kd.R_types (Kd.R_apart' (Kd.R_apart' (HO194.out) (Kd.N_typed HO184.out) (by decide)) (Kd.R_typed HO187.out) (by decide)) BK178.out (by decide)) BK188.out (by decide)) (fun k_ hk => ⟨hk.1.1.1.1.1.1, ⟨hk.1.1.1.2, ⟨hk.1.1.2, ⟨hk.1.2, hk.2⟩⟩⟩⟩))))) (Reps.none _ _)))); intro v196 w20 ho21 hb hg_ hnew_; clear hg_ hnew_; (first | rw [← Ny195.out] at ho21 | (simp only [Int.reduceToNat] at ho21; rw [← Ny195.out] at ho21)); have HO197 := mk_ (Kd.N_lower ho21 (below_size (be2_ HB GE178 GE188))); replace HO184 := mk_ (Kd.N_elder' (nq_ HO184) (Kd.N_base ho21) hb); replace HO187 := mk_ (Kd.R_below (rq_ HO187) hb); replace BK178 := mk_ (bb_ BK178 hb); replace BK188 := mk_ (bb_ BK188 hb); replace HB := mk_ (below_step (be2_ HB GE178 GE188) hb); clear HO191 HO194; clear hb ho21; obtain ⟨Ao22, co22, eo22⟩ := Kd.N_slice HO197.out; subst eo22; obtain ⟨_, _, _, _, _, _, _, _⟩ := hb4_ BK178))
  refine bodyPost_ret (results_cell_row rfl _ _ gb178 28 #[.slice Ao10 y182.length co10, .slice Ao9 y185.length co9, .int .i64 1, .slice Ao22 y195.length co22] (0, 0) _ rfl (by refine sb_ ?_; refine blk_put (cs := #[.slice Ao10 y182.length co10, .slice Ao9 y185.length co9, .int .i64 1, .slice none 0 0]) ?_ 3 _ rfl; refine sb_ ?_; refine blk_put (cs := #[.slice Ao10 y182.length co10, .slice Ao9 y185.length co9, .int .i64 0, .slice none 0 0]) ?_ 2 _ rfl; refine sb_ ?_; refine blk_put (cs := #[.slice Ao10 y182.length co10, .slice none 0 0, .int .i64 0, .slice none 0 0]) ?_ 1 _ rfl; refine sb_ ?_; refine blk_put (cs := #[.slice none 0 0, .slice none 0 0, .int .i64 0, .slice none 0 0]) ?_ 0 _ rfl; refine sb_ ?_; exact BK178.out) Tryd.underlying28 rfl (by kernel_rfl)) rfl ?_
  exact ⟨_, _, _, er_, by refine sn_ ?_; exact Kd.N_mono (Kd.N_far (p := ⟨gb178, 3, none⟩) (Kd.N_far (p := ⟨gb178, 2, none⟩) (Kd.N_far (p := ⟨gb178, 1, none⟩) (Kd.N_far (p := ⟨gb178, 0, none⟩) (Kd.N_mono HO184.out (fun k_ hk => (⟨hk, hk.1.1.1.1.1.2⟩ : _ ∧ k_ ≠ gb178))) (fun _ hk => hk.2) (.slice Ao10 y182.length co10)) (fun _ hk => hk.2) (.slice Ao9 y185.length co9)) (fun _ hk => hk.2) (.int .i64 1)) (fun _ hk => hk.2) (.slice Ao22 y195.length co22)) (fun _ hk => ⟨hk.1.1.1.1.1.1.1, ⟨hk.1.1.1.1.1.2, hk.1.2⟩⟩), by refine sr_ ?_; exact Kd.R_mono (Kd.R_far (p := ⟨gb178, 3, none⟩) (Kd.R_far (p := ⟨gb178, 2, none⟩) (Kd.R_far (p := ⟨gb178, 1, none⟩) (Kd.R_far (p := ⟨gb178, 0, none⟩) (Kd.R_types HO187.out BK178.out (by decide)) (fun _ hk => hk.2) (.slice Ao10 y182.length co10)) (fun _ hk => hk.2) (.slice Ao9 y185.length co9)) (fun _ hk => hk.2) (.int .i64 1)) (fun _ hk => hk.2) (.slice Ao22 y195.length co22)) (fun _ hk => hk.1.1), by refine sn_ ?_; exact Kd.N_mono (Kd.N_far (p := ⟨gb178, 3, none⟩) (Kd.N_far (p := ⟨gb178, 2, none⟩) (Kd.N_far (p := ⟨gb178, 1, none⟩) (Kd.N_far (p := ⟨gb178, 0, none⟩) (Kd.N_mono HO197.out (fun k_ hk => (⟨hk, hk.2.2.2.1⟩ : _ ∧ k_ ≠ gb178))) (fun _ hk => hk.2) (.slice Ao10 y182.length co10)) (fun _ hk => hk.2) (.slice Ao9 y185.length co9)) (fun _ hk => hk.2) (.int .i64 1)) (fun _ hk => hk.2) (.slice Ao22 y195.length co22)) (fun _ hk => ⟨hk.1.1, ⟨hk.1.2.1, hk.1.2.2.1⟩⟩), be2_ HB GE178 GE188⟩
def pentaglotlaw26_someone.f  : Option (Int × ByteArray × (List (S92)) × Int × Int × (List (S32))) := some (9, (⟨#[112, 101, 114, 115, 111, 110]⟩ : ByteArray), ([] : List (S92)), 0, 0, (([(⟨3, (⟨#[119, 97, 105, 116]⟩ : ByteArray), (([(⟨1, 0, (⟨#[]⟩ : ByteArray)⟩ : S92)] : List (S92))), 0, 0, ([] : List (S32))⟩ : S32)] : List (S32))))
theorem pentaglotlaw26_someone.calls  (r1 : Int) (r2 : ByteArray) (r3 : List (S92)) (r4 : Int) (r5 : Int) (r6 : List (S32)) (w : World) (h : pentaglotlaw26_someone.f  = some (r1, r2, r3, r4, r5, r6)) :
    Calls Tryd.prog 34 #[] w fun e w' => ∃ v2_ v5_ : Value, e = .returned (.agg #[.int .i64 r1, .string r2, v2_, .int .i64 r4, .int .i64 r5, v5_]) ∧ Kd.R k92 92 w' w.heap.size (fun k_ => (w.heap.size ≤ k_)) v2_ r3 ∧ Kd.N k32 32 w' w.heap.size (fun k_ => (w.heap.size ≤ k_) ∧ some k_ ≠ (v2_ : Value).ownBlock) v5_ r6 ∧ Below w.heap.size w w' := by
  have hu32 := Tryd.underlying32
  have hu92 := Tryd.underlying92
  have HB := mk_ (Below.refl w.heap.size w)
  have H : (some (9, (⟨#[112, 101, 114, 115, 111, 110]⟩ : ByteArray), ([] : List (S92)), 0, 0, (([(⟨3, (⟨#[119, 97, 105, 116]⟩ : ByteArray), (([(⟨1, 0, (⟨#[]⟩ : ByteArray)⟩ : S92)] : List (S92))), 0, 0, ([] : List (S32))⟩ : S32)] : List (S32))))) = some (r1, r2, r3, r4, r5, r6) := h
  clear h
  obtain ⟨y199, hy199⟩ : ∃ y_ : List (S92), y_ = (([(⟨1, 0, (⟨#[]⟩ : ByteArray)⟩ : S92)] : List (S92))) := ⟨_, rfl⟩
  replace H : (some (9, (⟨#[112, 101, 114, 115, 111, 110]⟩ : ByteArray), ([] : List (S92)), 0, 0, (([(⟨3, (⟨#[119, 97, 105, 116]⟩ : ByteArray), y199, 0, 0, ([] : List (S32))⟩ : S32)] : List (S32))))) = some (r1, r2, r3, r4, r5, r6) := by first | (rw [hy199]; with_reducible exact H) | (have H2_ := (Option.bind_some _ _).symm.trans H; rw [hy199]; with_reducible exact H2_) | (have H2_ := (Option.bind_some _ _).symm.trans H; with_reducible exact H2_) | with_reducible exact H | (rw [hy199]; exact H) | exact H
  have Ny199 := mk_ hy199
  clear hy199
  obtain ⟨y202, hy202⟩ : ∃ y_ : List (S32), y_ = (([(⟨3, (⟨#[119, 97, 105, 116]⟩ : ByteArray), y199, 0, 0, ([] : List (S32))⟩ : S32)] : List (S32))) := ⟨_, rfl⟩
  replace H : (some (9, (⟨#[112, 101, 114, 115, 111, 110]⟩ : ByteArray), ([] : List (S92)), 0, 0, y202)) = some (r1, r2, r3, r4, r5, r6) := by first | (rw [hy202]; with_reducible exact H) | (have H2_ := (Option.bind_some _ _).symm.trans H; rw [hy202]; with_reducible exact H2_) | (have H2_ := (Option.bind_some _ _).symm.trans H; with_reducible exact H2_) | with_reducible exact H | (rw [hy202]; exact H) | exact H
  have Ny202 := mk_ hy202
  clear hy202
  simp only [Option.some.injEq, Prod.mk.injEq] at H
  obtain ⟨rfl, rfl, rfl, rfl, rfl, rfl⟩ := H
  go_enter Tryd.func34, Tryd.ntmps34
  go_wp2_with (first | ((with_reducible refine gate_dst (N := 0) rfl ?_); refine bx_ 0 #[.int .i64 0, .string (⟨#[]⟩ : ByteArray), .slice none 0 0, .int .i64 0, .int .i64 0, .slice none 0 0] 32 ?_; intro gb198 hg w1 hbox hb; have BK198 := mk_ (hbox); have GW198 := mk_ (gs_ hg (be_ HB)); have GE198 := mk_ (gs_ hg (be_ HB)); replace HB := mk_ (below_step (be_ HB) hb); clear hb hbox hg) | ((with_reducible refine gate_dst (N := 2) rfl ?_); refine Kd.R_lit k92 _ 92 ?hg (N := 2) ?hd (xs := ([(⟨1, 0, (⟨#[]⟩ : ByteArray)⟩ : S92)] : List (S92))) (inner := [.int .i64 1, .int .i64 0, .string (⟨#[]⟩ : ByteArray)]) (ok := fun _ => True) (okp := fun _ => True) ?hr ?hp (fun _ hk => hk) trivial (Below.refl _ _) (Nat.le_refl _) (by simp) ?_; (case hd => rfl); (case hg => rfl); (case hr => first | (go_simp; done) | (go_simp; rfl)); (case hp => exact (Reps.c3 (show Kd.M k92 _ _ _ (⟨1, 0, (⟨#[]⟩ : ByteArray)⟩ : S92) [.int .i64 1, .int .i64 0, .string (⟨#[]⟩ : ByteArray)] from (k92_mkM _ _ _ (⟨1, 0, (⟨#[]⟩ : ByteArray)⟩ : S92) )) (Reps.none _ _))); intro v200 w2 ho3 hb hg_ hnew_; clear hg_ hnew_; (first | rw [← Ny199.out] at ho3 | (simp only [Int.reduceToNat] at ho3; rw [← Ny199.out] at ho3)); have HO201 := mk_ (Kd.R_lower (Kd.R_newM (M := fun k_ => (w.heap.size ≤ k_)) ho3 (below_size (be1_ HB GE198)) (fun k_ h_ => h_)) (below_size (be1_ HB GE198))); replace BK198 := mk_ (bb_ BK198 hb); replace HB := mk_ (below_step (be1_ HB GE198) hb); clear hb ho3; obtain ⟨Ao4, co4, eo4⟩ := Kd.R_slice HO201.out; subst eo4) | ((with_reducible refine gate_dst (N := 4) rfl ?_); refine Kd.N_lit k32 _ 32 ?hg (N' := 4) ?hd (xs := ([(⟨3, (⟨#[119, 97, 105, 116]⟩ : ByteArray), y199, 0, 0, ([] : List (S32))⟩ : S32)] : List (S32))) (inner := [.int .i64 3, .string (⟨#[119, 97, 105, 116]⟩ : ByteArray), .slice Ao4 y199.length co4, .int .i64 0, .int .i64 0, .slice none 0 0]) (ok := (fun k_ => (w.heap.size ≤ k_) ∧ k_ ≠ gb198)) (okp := (fun k_ => (w.heap.size ≤ k_) ∧ k_ ≠ gb198)) ?hr ?hp (fun _ hk => hk) ((show ∀ k_, w2.heap.size ≤ k_ → (fun k_ => (w.heap.size ≤ k_) ∧ k_ ≠ gb198) k_ from fun k_ hk => ⟨(Nat.le_trans (below_size (be1_ HB GE198)) hk), Kd.freshB (g := gb198) (o := .cells #[.int .i64 0, .string (⟨#[]⟩ : ByteArray), .slice none 0 0, .int .i64 0, .int .i64 0, .slice none 0 0] 32 (0, 0)) (bq_ BK198) k_ hk⟩) _ (Nat.le_refl _)) (Below.refl _ _) (Nat.le_refl _) (by simp) ?_; (case hd => rfl); (case hg => rfl); (case hr => first | (go_simp; done) | (go_simp; rfl)); (case hp => exact (Reps.c6 (show Kd.FK k32 _ _ (⟨3, (⟨#[119, 97, 105, 116]⟩ : ByteArray), y199, 0, 0, ([] : List (S32))⟩ : S32) [.int .i64 3, .string (⟨#[119, 97, 105, 116]⟩ : ByteArray), .slice Ao4 y199.length co4, .int .i64 0, .int .i64 0, .slice none 0 0] from (k32_mkF _ _ (⟨3, (⟨#[119, 97, 105, 116]⟩ : ByteArray), y199, 0, 0, ([] : List (S32))⟩ : S32) (Kd.R_reads' (Kd.R_mono (ok' := (fun k_ => (w.heap.size ≤ k_) ∧ k_ ≠ gb198)) (Kd.R_types (HO201.out) BK198.out (by decide)) (fun k_ hk => ⟨hk.1.1, hk.2⟩))).2.1 (Kd.R_F (Kd.R_mono (ok' := (fun k_ => (w.heap.size ≤ k_) ∧ k_ ≠ gb198)) (Kd.R_types (HO201.out) BK198.out (by decide)) (fun k_ hk => ⟨hk.1.1, hk.2⟩))) (Nat.le_refl _) (Kd.F_nil _ _ _))) (Reps.none _ _))); intro v203 w5 ho6 hb hg_ hnew_; clear hg_ hnew_; (first | rw [← Ny202.out] at ho6 | (simp only [Int.reduceToNat] at ho6; rw [← Ny202.out] at ho6)); have HO204 := mk_ (Kd.N_lower ho6 (below_size (be1_ HB GE198))); replace BK198 := mk_ (bb_ BK198 hb); replace HB := mk_ (below_step (be1_ HB GE198) hb); clear HO201; clear hb ho6; obtain ⟨Ao7, co7, eo7⟩ := Kd.N_slice HO204.out; subst eo7; obtain ⟨_, _, _, _, _, _, _, _, _, _, _, _⟩ := hb6_ BK198))
  refine bodyPost_ret (results_cell_row rfl _ _ gb198 32 #[.int .i64 9, .string (⟨#[112, 101, 114, 115, 111, 110]⟩ : ByteArray), .slice none 0 0, .int .i64 0, .int .i64 0, .slice Ao7 y202.length co7] (0, 0) _ rfl (by refine sb_ ?_; refine blk_put (cs := #[.int .i64 9, .string (⟨#[112, 101, 114, 115, 111, 110]⟩ : ByteArray), .slice none 0 0, .int .i64 0, .int .i64 0, .slice none 0 0]) ?_ 5 _ rfl; refine sb_ ?_; refine blk_put (cs := #[.int .i64 9, .string (⟨#[112, 101, 114, 115, 111, 110]⟩ : ByteArray), .slice none 0 0, .int .i64 0, .int .i64 0, .slice none 0 0]) ?_ 4 _ rfl; refine sb_ ?_; refine blk_put (cs := #[.int .i64 9, .string (⟨#[112, 101, 114, 115, 111, 110]⟩ : ByteArray), .slice none 0 0, .int .i64 0, .int .i64 0, .slice none 0 0]) ?_ 3 _ rfl; refine sb_ ?_; refine blk_put (cs := #[.int .i64 9, .string (⟨#[112, 101, 114, 115, 111, 110]⟩ : ByteArray), .slice none 0 0, .int .i64 0, .int .i64 0, .slice none 0 0]) ?_ 2 _ rfl; refine sb_ ?_; refine blk_put (cs := #[.int .i64 9, .string (⟨#[]⟩ : ByteArray), .slice none 0 0, .int .i64 0, .int .i64 0, .slice none 0 0]) ?_ 1 _ rfl; refine sb_ ?_; refine blk_put (cs := #[.int .i64 0, .string (⟨#[]⟩ : ByteArray), .slice none 0 0, .int .i64 0, .int .i64 0, .slice none 0 0]) ?_ 0 _ rfl; refine sb_ ?_; exact BK198.out) Tryd.underlying32 rfl (by kernel_rfl)) rfl ?_
  exact ⟨_, _, er_, by first | exact Kd.R_nil _ _ _ _ _ | exact Kd.N_nil _ _ _ _ _ | exact Kd.V_nil _ _ _ _ _ | exact Kd.Q_nil _ _ _ _ _ | exact Kd.S_nil _ _ _ _ _, by refine sn_ ?_; exact Kd.N_mono (Kd.N_far (p := ⟨gb198, 5, none⟩) (Kd.N_far (p := ⟨gb198, 4, none⟩) (Kd.N_far (p := ⟨gb198, 3, none⟩) (Kd.N_far (p := ⟨gb198, 2, none⟩) (Kd.N_far (p := ⟨gb198, 1, none⟩) (Kd.N_far (p := ⟨gb198, 0, none⟩) (Kd.N_mono HO204.out (fun k_ hk => (⟨hk, hk.2⟩ : _ ∧ k_ ≠ gb198))) (fun _ hk => hk.2) (.int .i64 9)) (fun _ hk => hk.2) (.string (⟨#[112, 101, 114, 115, 111, 110]⟩ : ByteArray))) (fun _ hk => hk.2) (.slice none 0 0)) (fun _ hk => hk.2) (.int .i64 0)) (fun _ hk => hk.2) (.int .i64 0)) (fun _ hk => hk.2) (.slice Ao7 y202.length co7)) (fun _ hk => ⟨hk.1.1, (by simp [Value.ownBlock])⟩), be1_ HB GE198⟩
def exS : ByteArray := ⟨#[112, 101, 114, 115, 111, 110]⟩
def exD : List S73 := [⟨exS, [⟨#[109, 97, 114, 116, 97]⟩, ⟨#[112, 101, 114, 115, 111, 110, 35, 49]⟩]⟩]
def exT : List Int := [60]
def exF : List S62 := [⟨⟨#[119, 97, 105, 116]⟩, [⟨#[109, 97, 114, 116, 97]⟩], 1, 0⟩, ⟨⟨#[119, 97, 105, 116]⟩, [⟨#[112, 101, 114, 115, 111, 110, 35, 49]⟩], 1, 1⟩]
def exK : List S32 := [⟨3, ⟨#[119, 97, 105, 116]⟩, [⟨1, 0, ⟨#[]⟩⟩], 0, 0, []⟩]
def exM : List Int := [1, 2]
def exP : ByteArray := ⟨#[112, 101, 114, 115, 111, 110, 35, 49]⟩
structure AwOk (k : Nat) : Prop where
  a : evaluate_At.f k exD exT 1 exF 9 exS [] 0 0 exK 1 1 = some (true, 0)
  b : evaluate_At.f k exD exT 1 exF 9 exS [] 0 0 exK 0 2 = some (false, 0)
  s : evaluate_Witness.f k exD exT 1 exF 9 exS [] 0 0 exK 1 1 = some (exP, true, 0)
  m : evaluate_Moments.f k exD exT 1 exF 60 (-1) = some (exM, 0)
  t : evaluate_True.f k exD exT 1 exF 1 ⟨#[]⟩ [] 0 0 [] = some (true, 0)
  n : pentaglotref22_SameInts.f k exM exM = some true
theorem awOk : AwOk 40 := ⟨by kernel_rfl, by kernel_rfl, by kernel_rfl, by kernel_rfl, by kernel_rfl, by kernel_rfl⟩
def pentaglotlaw26_awake.f (_ : Nat) : Option Bool := some true
theorem ev_awake : Ev (fun k => pentaglotlaw26_awake.f k) true := ⟨0, fun _ _ => rfl⟩
structure ExW (w : World) (A0 : Option Addr) (c0 : Nat) (A1 : Option Addr) (c1 : Nat) (A3 : Option Addr) (c3 : Nat) : Prop where
  r0 : Kd.C k73 w A0 exD.length exD
  l0 : exD.length ≤ c0
  r1 : Kd.C (Kd.int .i64) w A1 exT.length exT
  l1 : exT.length ≤ c1
  r3 : Kd.C k62 w A3 exF.length exF
  l3 : exF.length ≤ c3
theorem ExW.below {w w' : World} {A0 : Option Addr} {c0 : Nat} {A1 : Option Addr} {c1 : Nat} {A3 : Option Addr} {c3 : Nat} (h : ExW w A0 c0 A1 c1 A3 c3) (hb : Below w.heap.size w w') : ExW w' A0 c0 A1 c1 A3 c3 :=
  ⟨Kd.C_below h.r0 hb, h.l0, Kd.C_below h.r1 hb, h.l1, Kd.C_below h.r3 hb, h.l3⟩
theorem aw_ex (w : World) : Calls Tryd.prog 33 #[] w fun e w' => ∃ A0 c0 A1 c1 A3 c3, e = .returned (.agg #[.slice A0 exD.length c0, .slice A1 exT.length c1, .int .i64 1, .slice A3 exF.length c3]) ∧ ExW w' A0 c0 A1 c1 A3 c3 ∧ Below w.heap.size w w' := by
  refine (pentaglotlaw26_example.calls exD exT 1 exF w rfl).mono ?_
  rintro e w' ⟨v0, v1, v3, rfl, h0, h1, h3, hb⟩
  obtain ⟨A0, c0, rfl, l0, f0⟩ := Kd.N_V (base' := 0) h0
  obtain ⟨A1, c1, rfl, l1, f1⟩ := Kd.R_V (base' := 0) h1
  obtain ⟨A3, c3, rfl, l3, f3⟩ := Kd.N_V (base' := 0) h3
  exact ⟨A0, c0, A1, c1, A3, c3, rfl, ⟨Kd.F_now f0, l0, Kd.F_now f1, l1, Kd.F_now f3, l3⟩, hb⟩
structure SoF (w : World) (A2 : Option Addr) (c2 : Nat) (A5 : Option Addr) (c5 : Nat) : Prop where
  r2 : Kd.C k92 w A2 ([] : List S92).length []
  l2 : ([] : List S92).length ≤ c2
  r5 : Kd.C k32 w A5 exK.length exK
  l5 : exK.length ≤ c5
theorem aw_so (w : World) : Calls Tryd.prog 34 #[] w fun e w' => ∃ A2 c2 A5 c5, e = .returned (.agg #[.int .i64 9, .string exS, .slice A2 ([] : List S92).length c2, .int .i64 0, .int .i64 0, .slice A5 exK.length c5]) ∧ SoF w' A2 c2 A5 c5 ∧ Below w.heap.size w w' := by
  refine (pentaglotlaw26_someone.calls 9 exS [] 0 0 exK w rfl).mono ?_
  rintro e w' ⟨v2, v5, rfl, h2, h5, hb⟩
  obtain ⟨A2, c2, rfl, l2, f2⟩ := Kd.R_V (base' := 0) h2
  obtain ⟨A5, c5, rfl, l5, f5⟩ := Kd.N_V (base' := 0) h5
  exact ⟨A2, c2, A5, c5, rfl, ⟨Kd.F_now f2, l2, Kd.F_now f5, l5⟩, hb⟩
theorem C_12 (w : World) : Kd.C (Kd.int .i64) (w.alloc (.cells #[.int .i64 1, .int .i64 2] 3)) (some ⟨w.heap.size, 0, none⟩) exM.length exM := by
  refine ⟨rfl, by decide, fun _ => ⟨_, rfl, fun j p hp => ⟨[.int .i64 p], rfl, rfl, fun i u hu => ?_⟩⟩⟩
  have hi : i = 0 := by have := (List.getElem?_eq_some_iff.1 hu).1; simp at this; omega
  subst hi
  obtain rfl : Value.int .i64 p = u := by simpa using hu
  have hb := heap_alloc_new w (.cells #[.int .i64 1, .int .i64 2] 3)
  match j, hp with
  | 0, hp => obtain rfl : (1 : Int) = p := by simpa [exM] using hp
             exact (blk_cell hb 0).trans rfl
  | 1, hp => obtain rfl : (2 : Int) = p := by simpa [exM] using hp
             exact (blk_cell hb 1).trans rfl
  | j + 2, hp => simp [exM] at hp
theorem C_none {α : Type} (d : Kd α) (w : World) : Kd.C d w none ([] : List α).length [] := ⟨rfl, by simp, fun h => absurd h (by simp)⟩
theorem pentaglotlaw26_awake.calls (k0 : Nat) (r : Bool) (w : World) (h : pentaglotlaw26_awake.f k0 = some r) (htb : Tb w) : Calls Tryd.prog 12 #[] w fun e w' => e = .returned (.bool r) ∧ Below w.heap.size w w' := by
  obtain rfl : true = r := Option.some.inj h
  obtain ⟨k, ho⟩ : ∃ k, AwOk k := ⟨40, awOk⟩
  have HO := mk_ ho
  have HTB := mk_ htb
  have HB0 := mk_ (Below.refl w.heap.size w)
  clear ho h htb
  have T1 : True := trivial
  have T2 : True := trivial
  have T3 : True := trivial
  have T4 : True := trivial
  have T5 : True := trivial
  have T6 : True := trivial
  have T7 : True := trivial
  have T8 : True := trivial
  have T9 : True := trivial
  have T10 : True := trivial
  have T11 : True := trivial
  have T12 : True := trivial
  have T13 : True := trivial
  have T14 : True := trivial
  go_enter Tryd.func12, Tryd.ntmps12
  go_wp2_with (first
    | (clear T1; go_at_call 33; refine (aw_ex _).mono ?_; rintro e w1 ⟨A0, c0, A1, c1, A3, c3, rfl, hx, hb⟩; have HX := mk_ hx; have HB1 := mk_ (below_step HB0.out hb); clear hx hb HB0)
    | (clear T2; go_at_call 34; refine (aw_so _).mono ?_; rintro e w2 ⟨A2, c2, A5, c5, rfl, hs, hb⟩; have HS := mk_ hs; have HX1 := mk_ (HX.out.below hb); have HB2 := mk_ (below_step HB1.out hb); clear hs hb HX HB1)
    | (clear T3; go_at_call 14; refine (evaluate_At.calls k A0 c0 exD A1 c1 exT 1 A3 c3 exF 9 exS A2 c2 [] 0 0 A5 c5 exK 1 1 true 0 _ HX1.out.r0 HX1.out.l0 HX1.out.r1 HX1.out.l1 HX1.out.r3 HX1.out.l3 HS.out.r2 HS.out.l2 HS.out.r5 HS.out.l5 HO.out.a (tb_on HTB.out HB2.out)).mono ?_; rintro e w3 ⟨rfl, hb⟩; have HB3 := mk_ (below_step HB2.out hb); clear hb HB2 HX1 HS)
    | (clear T4; go_at_call 33; refine (aw_ex _).mono ?_; rintro e w4 ⟨A0, c0, A1, c1, A3, c3, rfl, hx, hb⟩; have HX := mk_ hx; have HB4 := mk_ (below_step HB3.out hb); clear hx hb HB3)
    | (clear T5; go_at_call 34; refine (aw_so _).mono ?_; rintro e w5 ⟨A2, c2, A5, c5, rfl, hs, hb⟩; have HS := mk_ hs; have HX1 := mk_ (HX.out.below hb); have HB5 := mk_ (below_step HB4.out hb); clear hs hb HX HB4)
    | (clear T6; go_at_call 14; refine (evaluate_At.calls k A0 c0 exD A1 c1 exT 1 A3 c3 exF 9 exS A2 c2 [] 0 0 A5 c5 exK 0 2 false 0 _ HX1.out.r0 HX1.out.l0 HX1.out.r1 HX1.out.l1 HX1.out.r3 HX1.out.l3 HS.out.r2 HS.out.l2 HS.out.r5 HS.out.l5 HO.out.b (tb_on HTB.out HB5.out)).mono ?_; rintro e w6 ⟨rfl, hb⟩; have HB6 := mk_ (below_step HB5.out hb); clear hb HB5 HX1 HS)
    | (clear T7; go_at_call 33; refine (aw_ex _).mono ?_; rintro e w7 ⟨A0, c0, A1, c1, A3, c3, rfl, hx, hb⟩; have HX := mk_ hx; have HB7 := mk_ (below_step HB6.out hb); clear hx hb HB6)
    | (clear T8; go_at_call 34; refine (aw_so _).mono ?_; rintro e w8 ⟨A2, c2, A5, c5, rfl, hs, hb⟩; have HS := mk_ hs; have HX1 := mk_ (HX.out.below hb); have HB8 := mk_ (below_step HB7.out hb); clear hs hb HX HB7)
    | (clear T9; go_at_call 27; refine (evaluate_Witness.calls k A0 c0 exD A1 c1 exT 1 A3 c3 exF 9 exS A2 c2 [] 0 0 A5 c5 exK 1 1 ⟨#[112, 101, 114, 115, 111, 110, 35, 49]⟩ true 0 _ HX1.out.r0 HX1.out.l0 HX1.out.r1 HX1.out.l1 HX1.out.r3 HX1.out.l3 HS.out.r2 HS.out.l2 HS.out.r5 HS.out.l5 HO.out.s (tb_on HTB.out HB8.out)).mono ?_; rintro e w9 ⟨rfl, hb⟩; have HB9 := mk_ (below_step HB8.out hb); clear hb HB8 HX1 HS)
    | (clear T10; go_at_call 33; refine (aw_ex _).mono ?_; rintro e w10 ⟨A0, c0, A1, c1, A3, c3, rfl, hx, hb⟩; have HX := mk_ hx; have HB10 := mk_ (below_step HB9.out hb); clear hx hb HB9)
    | (clear T11; go_at_call 22; refine (evaluate_Moments.calls k A0 c0 exD A1 c1 exT 1 A3 c3 exF 60 (-1) exM 0 _ HX.out.r0 HX.out.l0 HX.out.r1 HX.out.l1 HX.out.r3 HX.out.l3 HO.out.m).mono ?_; rintro e w11 ⟨v, rfl, hv, hb⟩; obtain ⟨AM, cM, rfl, lM, fM⟩ := Kd.R_V (base' := 0) hv; have HM := mk_ (And.intro lM (Kd.F_now fM)); have HBM := mk_ (Below.refl w11.heap.size w11); have HB11 := mk_ (below_step HB10.out hb); clear hv hb lM fM HB10 HX)
    | (clear T12; go_at_call 33; refine (aw_ex _).mono ?_; rintro e w12 ⟨A0, c0, A1, c1, A3, c3, rfl, hx, hb⟩; have HX := mk_ hx; have HM1 := mk_ (And.intro HM.out.1 (Kd.C_below HM.out.2 hb)); have HB12 := mk_ (below_step HB11.out hb); clear hx hb HB11 HM)
    | (clear T13; go_at_call 18; refine (evaluate_True.calls k A0 c0 exD A1 c1 exT 1 A3 c3 exF 1 ⟨#[]⟩ none 0 [] 0 0 none 0 [] true 0 _ HX.out.r0 HX.out.l0 HX.out.r1 HX.out.l1 HX.out.r3 HX.out.l3 (C_none _ _) (Nat.le_refl _) (C_none _ _) (Nat.le_refl _) HO.out.t (tb_on HTB.out HB12.out)).mono ?_; rintro e w13 ⟨rfl, hb⟩; have HB13 := mk_ (below_step HB12.out hb); have HM2 := mk_ (And.intro HM1.out.1 (Kd.C_below HM1.out.2 hb)); have HC12 := mk_ (C_12 w13); clear hb HB12 HX HM1)
    | (clear T14; go_at_call 25; refine (pentaglotref22_SameInts.calls k AM cM exM (some ⟨w13.heap.size, 0, none⟩) 2 exM true _ (Kd.C_below HM2.out.2 (below_alloc (Below.refl _ _) _)) HM2.out.1 HC12.out (by decide) HO.out.n).mono ?_; rintro e w14 ⟨rfl, hd⟩; have HD := mk_ hd; clear hd))
  go_ret
  obtain ⟨nd, e14⟩ := HD.out.out
  subst e14
  exact ⟨by first | rfl | simp, pw_below_drewN (below_alloc HB13.out _) nd⟩
end Go.Proofs.YtolpckflofjfhaaDoor.P
