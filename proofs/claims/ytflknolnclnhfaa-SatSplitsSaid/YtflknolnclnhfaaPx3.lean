-- Written by the session's own program wip/tools/xprint.py out of the translation, with the kit's print.py on a scratch copy; functions given by hand stand among them.
import Derived.Test.YtflknolnclnhfaaPx0
import Derived.Test.YtflknolnclnhfaaPx2
namespace Go.Proofs.Ytflknolnclnhfaa.P
open Go.RowKit Go.Proofs.YtflknolnclnhfaaW.PrintWords Go.Proofs.YtflknolnclnhfaaW.PrintLast Go.Proofs.YtflknolnclnhfaaW.PrintMore
attribute [local go_sem] max2_int min2_int max_two min_two max_three min_three max_four min_four   -- for this text's walks alone
set_option linter.unusedVariables false
set_option linter.unusedSimpArgs false

/-! ### sat_Least: function 22, by hand -/
def bvals (l : List Bool) : Array Value := (l.map Value.bool).toArray
theorem bvals_get (l : List Bool) (i : Nat) (h : i < l.length) : (bvals l)[i]? = some (.bool (l.getD i false)) := by
  simp [bvals, List.getD_eq_getElem?_getD, List.getElem?_eq_getElem h]
theorem bvals_set (l : List Bool) (i : Nat) (v : Bool) : (bvals l).setIfInBounds i (.bool v) = bvals (l.set i v) := by
  simp [bvals, List.map_set]
theorem bvals_made (n : Nat) : madeCells (Value.bool false).cells (n * 1) = bvals (List.replicate n false) := by
  apply Array.ext
  · simp [size_madeCells, bvals]
  · intro i h1 h2
    simp [madeCells, bvals, Value.cells, Nat.mod_one]
theorem bvals_cell {w : World} {g : Nat} {l : List Bool} (h : w.heap[g]? = some (.cells (bvals l) 4 (0, 0))) (i : Nat) (hi : i < l.length) : w.cell? ⟨g, i, none⟩ = some (.bool (l.getD i false)) := (blk_cell h i).trans (bvals_get l i hi)
theorem bvals_put {w : World} {g : Nat} {l : List Bool} (h : w.heap[g]? = some (.cells (bvals l) 4 (0, 0))) (i : Nat) (v : Bool) : (w.setCell ⟨g, i, none⟩ (.bool v)).heap[g]? = some (.cells (bvals (l.set i v)) 4 (0, 0)) := blk_put h i _ (bvals_set l i v)
/-- The search for the first relevant input. -/
def relL (gs : List S52) (vs : List Int) : Nat → List Bool → List Int → Int → Option Int
  | 0, _, _, _ => none
  | f + 1, seen, todo, first =>
    if 0 < todo.length then
      (if 0 ≤ rd todo ((todo.length : Int) - 1) ∧ rd todo ((todo.length : Int) - 1) < (seen.length : Int) then
        (if seen.getD (rd todo ((todo.length : Int) - 1)).toNat false = true then relL gs vs f seen (todo.take (todo.length - 1)) first
        else if rd todo ((todo.length : Int) - 1) < (vs.length : Int) then
          (if rd vs (rd todo ((todo.length : Int) - 1)) = 2 then
            (if rd todo ((todo.length : Int) - 1) < (gs.length : Int) then
              (if (rd_T52 gs (rd todo ((todo.length : Int) - 1))).f0 = 3 then relL gs vs f (seen.set (rd todo ((todo.length : Int) - 1)).toNat true) (todo.take (todo.length - 1)) (if (rd_T52 gs (rd todo ((todo.length : Int) - 1))).f1 < first then (rd_T52 gs (rd todo ((todo.length : Int) - 1))).f1 else first)
              else if (todo.take (todo.length - 1)).length + (rd_T52 gs (rd todo ((todo.length : Int) - 1))).f2.length < 17592186044416 then
                relL gs vs f (seen.set (rd todo ((todo.length : Int) - 1)).toNat true) (todo.take (todo.length - 1) ++ (rd_T52 gs (rd todo ((todo.length : Int) - 1))).f2) first else none)
            else none)
          else relL gs vs f seen (todo.take (todo.length - 1)) first)
        else none)
      else none)
    else some first
def relF (k : Nat) (gs : List S52) (n0 n2 : Int) (vs : List Int) : Option Int := relL gs vs k (List.replicate vs.length false) [n2] n0
theorem IsEv.below {w W : World} {e g : Nat} {n0 n2 : Int} {A : Option Addr} {n c m : Nat} {vs : List Int} (h : IsEv w e g n0 n2 A n c m vs) (hb : Below w.heap.size w W) : IsEv W e g n0 n2 A n c m vs := ⟨blk_below h.he hb, blk_below h.hg hb, h.ne⟩
set_option maxHeartbeats 16000000 in
set_option maxRecDepth 100000 in
theorem relevant_any (kf b g : Nat) (n0 n2 : Int) (A : Option Addr) (c m : Nat) (gs : List S52) (vs : List Int) (r : Int) (w : World) (hE : IsEv w b g n0 n2 A gs.length c m vs)
    (hG : Kd.C k52 w A gs.length gs) (hlen : vs.length ≤ 1000000) (h : relF kf gs n0 n2 vs = some r) :
    Calls Try.prog 38 #[.pointer (some ⟨b, 0, none⟩)] w fun e w' => e = .returned (.int .i64 r) ∧ Below w.heap.size w w' := by
  obtain ⟨i0, hi, hz0, hz1, hz2⟩ := info_parts info4
  have hmk := fun (W : World) => run_make (P := Try.prog) W 25 4 i0 (.bool false) Try.underlying25 hi hz0 .i64 .i64 (vs.length : Int) (vs.length : Int) (by omega) (by omega) (by rw [hz2]; omega) (by omega)
  simp only [Int.toNat_natCast, hz1, bvals_made] at hmk
  clear hi hz0 hz1 hz2
  have hu52 := Try.underlying52
  have hu24 := Try.underlying24
  have hu69 := Try.underlying69
  have hgl : gs.length ≤ 9223372036854775807 := Kd.C_max hG
  have HG := Aside0.mk hG
  have x3 := hE.row
  have x2 : w.cell? ⟨b, 2, none⟩ = some (.int .i64 n2) := (blk_cell hE.he 2).trans rfl
  have x0 : w.cell? ⟨b, 0, none⟩ = some (.int .i64 n0) := (blk_cell hE.he 0).trans rfl
  have HE := Aside0.mk hE
  have H := Aside0.mk h
  have hbl := blk_lt hE.he
  have hble : b ≠ w.heap.size := by omega
  have hble2 : b ≠ w.heap.size + 1 := by omega
  clear hG hE h
  go_enter Try.func38, Try.ntmps38
  go_wp2_with fail
  have hR0 : Kd.R (Kd.int .i64) 3 ((w.alloc (.cells (bvals (List.replicate vs.length false)) 4)).alloc (.cells #[.int .i64 n2] 3)) w.heap.size (fun _ => True) (.slice (some ⟨w.heap.size + 1, 0, none⟩) 1 1) [n2] := by
    refine Kd.R_of_own (xs := [n2]) ?_ (fun _ _ => trivial)
    have h2 := World.ownsRow_lit (base := w.heap.size) (e := 3) (size := 1) (w.alloc (.cells (bvals (List.replicate vs.length false)) 4)) #[.int .i64 n2] 1 (by simp) (by simp [maxLen]) (by simp)
    simpa [encs] using h2
  have hS0 : ((w.alloc (.cells (bvals (List.replicate vs.length false)) 4)).alloc (.cells #[.int .i64 n2] 3)).heap[w.heap.size]? = some (.cells (bvals (List.replicate vs.length false)) 4 (0, 0)) := blk_alloc (heap_alloc_new w _) _
  have hB0 : Below w.heap.size w ((w.alloc (.cells (bvals (List.replicate vs.length false)) 4)).alloc (.cells #[.int .i64 n2] 3)) := below_alloc (below_alloc (Below.refl _ _) _) _
  generalize (w.alloc (.cells (bvals (List.replicate vs.length false)) 4)).alloc (.cells #[.int .i64 n2] 3) = W0 at hR0 hS0 hB0 ⊢
  generalize (Value.slice (some ⟨w.heap.size + 1, 0, none⟩) 1 1) = v0 at hR0 ⊢
  clear x0 x2 x3 hmk hble2
  have HR0 := Aside0.mk hR0
  have HS0 := Aside0.mk hS0
  have HB0 := Aside0.mk hB0
  have hss : (List.replicate vs.length false).length = vs.length := List.length_replicate
  clear hR0 hS0 hB0
  go_loopg [4, 5] kf (fun kq v4 v5 wr => ∃ (seen : List Bool) (todo : List Int) (first : Int), v5 = .int .i64 first ∧ Aside0 (Kd.R (Kd.int .i64) 3 wr w.heap.size (fun _ => True) v4 todo) ∧ Aside0 (wr.heap[w.heap.size]? = some (.cells (bvals seen) 4 (0, 0))) ∧ Aside0 (Below w.heap.size w wr) ∧ Aside0 (seen.length = vs.length) ∧ Aside0 (kq ≤ kf) ∧ Aside0 (relL gs vs kq seen todo first = some r))
  case atStart => exact ⟨_, [n2], n0, rfl, HR0, HS0, HB0, ⟨hss⟩, ⟨Nat.le_refl _⟩, H⟩
  case round =>
    clear H HR0 HS0 HB0
    obtain ⟨seen, todo, first, rfl, HO, HS, HB, HL, HK, HF⟩ := hrel
    cases gk with
    | zero => exact absurd HF.out (by simp [relL])
    | succ k1 =>
      obtain ⟨At, ct, rfl, hct, hC⟩ := Kd.R_reads HO.out
      by_cases hn : 0 < todo.length
      · have e := HF.out
        rw [relL, if_pos hn] at e
        obtain ⟨adt, rfl, hxt⟩ := Kd.at_int hC ((todo.length : Int) - 1) (by omega) (by omega)
        have hmax : todo.length ≤ 9223372036854775807 := Kd.C_max hC
        have hn' : (0 : Int) < (todo.length : Int) := by omega
        have en : ((todo.length : Int) - 1).toNat = todo.length - 1 := by omega
        rw [en] at hxt
        generalize hp : rd todo ((todo.length : Int) - 1) = p at hxt e
        clear hC HF
        by_cases hp1 : 0 ≤ p ∧ p < (seen.length : Int)
        case neg => rw [if_neg hp1] at e; cases e
        rw [if_pos hp1] at e
        obtain ⟨hp0, hp2⟩ := hp1
        have hsl : seen.length = vs.length := HL.out
        have hp3 : p < (vs.length : Int) := by omega
        have hvl : vs.length ≤ 1000000 := hlen
        have s0 := bvals_cell HS.out p.toNat (by omega)
        have s1 := blk_frozen HS.out p.toNat
        have y3 := (HE.out.below HB.out).row
        have y4 : wr.cell? ⟨g, p.toNat, none⟩ = some (.int .i64 (rd vs p)) := ivals_cell (HE.out.below HB.out).hg p.toNat (by omega)
        by_cases hs : seen.getD p.toNat false = true
        · rw [if_pos hs] at e
          rw [hs] at s0
          go_wp2
          go_roundg k1
          case measure => have := HK.out; omega
          case rel => exact ⟨seen, todo.take (todo.length - 1), first, rfl, ⟨Kd.R_take HO.out (by omega)⟩, HS, HB, HL, ⟨by have := HK.out; omega⟩, ⟨e⟩⟩
        · rw [if_neg hs, if_pos hp3] at e
          rw [Bool.not_eq_true] at hs
          rw [hs] at s0
          by_cases hv : rd vs p = 2
          · rw [if_pos hv] at e
            rw [hv] at y4
            by_cases hp4 : p < (gs.length : Int)
            case neg => rw [if_neg hp4] at e; cases e
            rw [if_pos hp4] at e
            go_upto_region 9 with (fail)
            have hO1 := Kd.R_set (Kd.R_take (m := todo.length - 1) HO.out (by omega)) HS.out (by intro q hq; simp [Kd.int, Kd.scalar] at hq; omega) p.toNat (.bool true)
            have hS1 := bvals_put HS.out p.toNat true
            have hB1 := HB.out.setCell (p := ⟨w.heap.size, p.toNat, none⟩) (Nat.le_refl _) (.bool true)
            generalize wr.setCell ⟨w.heap.size, p.toNat, none⟩ (.bool true) = W1 at hO1 hS1 hB1 ⊢
            clear s0 s1 y3 y4 hxt
            obtain ⟨adg, A2, c2, rfl, g0, g1, g2, hl2, hC2⟩ := at_T52 (Kd.C_below HG.out hB1) p hp0 hp4
            have y1 : W1.cell? ⟨b, 1, none⟩ = some (.slice (some adg) gs.length c) := (blk_cell (HE.out.below hB1).he 1).trans rfl
            have HO1 := Aside0.mk hO1
            have HS1 := Aside0.mk hS1
            have HB1 := Aside0.mk hB1
            have HC2 := Aside0.mk hC2
            clear hO1 hS1 hB1 hC2 HO HS HB
            go_upto_region 10 with (fail)
            have hO2 := Kd.R_alloc HO1.out (.cells #[.int .i64 (rd_T52 gs p).f0, .int .i64 (rd_T52 gs p).f1, .slice A2 (rd_T52 gs p).f2.length c2] 52)
            have hS2 := blk_alloc HS1.out (.cells #[.int .i64 (rd_T52 gs p).f0, .int .i64 (rd_T52 gs p).f1, .slice A2 (rd_T52 gs p).f2.length c2] 52)
            have hB2 := below_alloc HB1.out (.cells #[.int .i64 (rd_T52 gs p).f0, .int .i64 (rd_T52 gs p).f1, .slice A2 (rd_T52 gs p).f2.length c2] 52)
            have hC3 := Kd.C_alloc HC2.out (.cells #[.int .i64 (rd_T52 gs p).f0, .int .i64 (rd_T52 gs p).f1, .slice A2 (rd_T52 gs p).f2.length c2] 52)
            have hX2 := heap_alloc_new W1 (.cells #[.int .i64 (rd_T52 gs p).f0, .int .i64 (rd_T52 gs p).f1, .slice A2 (rd_T52 gs p).f2.length c2] 52)
            generalize W1.alloc (.cells #[.int .i64 (rd_T52 gs p).f0, .int .i64 (rd_T52 gs p).f1, .slice A2 (rd_T52 gs p).f2.length c2] 52) = W2 at hO2 hS2 hB2 hC3 hX2 ⊢
            generalize W1.heap.size = gb at hX2 ⊢
            clear HO1 HS1 HB1 HC2 g0 g1 g2 y1
            have z0 : W2.cell? ⟨gb, 0, none⟩ = some (.int .i64 (rd_T52 gs p).f0) := (blk_cell hX2 0).trans rfl
            have z1 : W2.cell? ⟨gb, 1, none⟩ = some (.int .i64 (rd_T52 gs p).f1) := (blk_cell hX2 1).trans rfl
            have z2 : W2.cell? ⟨gb, 2, none⟩ = some (.slice A2 (rd_T52 gs p).f2.length c2) := (blk_cell hX2 2).trans rfl
            have HO2 := Aside0.mk hO2
            have HS2 := Aside0.mk hS2
            have HB2 := Aside0.mk hB2
            have HC3 := Aside0.mk hC3
            clear hO2 hS2 hB2 hC3 hX2
            by_cases o3 : (rd_T52 gs p).f0 = 3
            · rw [if_pos o3] at e
              rw [o3] at z0
              generalize (rd_T52 gs p).f1 = f1 at z1 e
              by_cases hfl : f1 < first
              · rw [if_pos hfl] at e
                have HF := Aside0.mk e
                clear e
                go_wp2
                go_roundg k1
                case measure => have := HK.out; omega
                case rel => exact ⟨_, _, f1, rfl, HO2, HS2, HB2, ⟨by rw [List.length_set]; exact HL.out⟩, ⟨by have := HK.out; omega⟩, HF⟩
              · rw [if_neg hfl] at e
                have HF := Aside0.mk e
                clear e
                go_wp2
                go_roundg k1
                case measure => have := HK.out; omega
                case rel => exact ⟨_, _, first, rfl, HO2, HS2, HB2, ⟨by rw [List.length_set]; exact HL.out⟩, ⟨by have := HK.out; omega⟩, HF⟩
            · rw [if_neg o3] at e
              by_cases hbd : (todo.take (todo.length - 1)).length + (rd_T52 gs p).f2.length < 17592186044416
              case neg => rw [if_neg hbd] at e; cases e
              rw [if_pos hbd] at e
              have HF := Aside0.mk e
              have HD := Aside0.mk hbd
              clear e hbd
              go_wp2_with ((with_reducible refine gate_builtin (b := .append) (xs := #[.tmp 71, .tmp 73]) rfl ?_); at_builtin; refine Kd.R_append_rows (Kd.int .i64) (w0 := w) w.heap.size rfl (.tmp 71) (.tmp 73) 33 3 (.int .i64 0) 8 rfl Try.underlying33 info3 rfl (by decide) (by omega) _ (todo.take (todo.length - 1)) (rd_T52 gs p).f2 _ _ _ (fun _ => True) (fun _ => False) rfl rfl HO2.out HC3.out (fun _ _ h => h) (fun _ h => h.elim) (fun _ _ => trivial) HB2.out HB2.out.size (by have := HD.out; omega) ?_; intro v3 w3 ho3 hb3 hg3 _; have HO3 := Aside0.mk ho3; have HB3 := Aside0.mk hb3; have HS3 := Aside0.mk (blk_grown HS2.out hg3 (Kd.R_ne HO2.out HS2.out (by decide))); clear ho3 hb3 hg3)
              go_roundg k1
              case measure => have := HK.out; omega
              case rel => exact ⟨_, _, first, rfl, HO3, HS3, HB3, ⟨by rw [List.length_set]; exact HL.out⟩, ⟨by have := HK.out; omega⟩, HF⟩
          · rw [if_neg hv] at e
            generalize rd vs p = v at y4 hv
            go_wp2
            go_roundg k1
            case measure => have := HK.out; omega
            case rel => exact ⟨seen, todo.take (todo.length - 1), first, rfl, ⟨Kd.R_take HO.out (by omega)⟩, HS, HB, HL, ⟨by have := HK.out; omega⟩, ⟨e⟩⟩
      · have e := HF.out
        rw [relL, if_neg hn] at e
        obtain rfl := Option.some.inj e
        have hn' : ¬ (0 : Int) < (todo.length : Int) := by omega
        clear e HF
        go_wp2
        go_ret
        exact ⟨rfl, HB.out⟩
/-- The search of Least: the error, the bits, how many were looked at, the values. -/
def lookF (kf : Nat) (gs : List S52) (n0 n2 budget : Int) : Nat → List Int → Int → List Int → Option (Int × List Int × Int × List Int)
  | 0, _, _, _ => none
  | f + 1, bits, looked, vs =>
    if looked = budget then some (7, bits, looked, vs)
    else (outF gs n2 bits vs).bind fun o =>
      if o.2 = 0 then some (4, bits, wrap64 (looked + 1), o.1)
      else if o.2 = 1 then some (0, bits, wrap64 (looked + 1), o.1)
      else (relF kf gs n0 n2 o.1).bind fun nx =>
        if 0 ≤ nx ∧ nx < (bits.length : Int) then
          (lookF kf gs n0 n2 budget f (bits.set nx.toNat 0) (wrap64 (looked + 1)) o.1).bind fun r1 =>
            if r1.1 = 4 then
              (if nx < (r1.2.1.length : Int) then
                (lookF kf gs n0 n2 budget f (r1.2.1.set nx.toNat 1) r1.2.2.1 r1.2.2.2).bind fun r2 =>
                  if r2.1 = 4 then (if nx < (r2.2.1.length : Int) then some (4, r2.2.1.set nx.toNat 2, r2.2.2.1, r2.2.2.2) else none)
                  else some r2
              else none)
            else some r1
        else none
/-- What a search stands on: its variables' blocks, the evaluator, the row of bits. -/
structure IsLk (N : Nat) (w : World) (Lk Bg Vp Bp Fp b g : Nat) (n0 n2 : Int) (A : Option Addr) (n c m : Nat) (vB : Value) (budget : Int) (bits : List Int) (looked : Int) (vs : List Int) : Prop where
  hl : w.heap[Lk]? = some (.cells #[.int .i64 looked] 3 (0, 0))
  hbg : w.heap[Bg]? = some (.cells #[.int .i64 budget] 3 (0, 0))
  hv : w.heap[Vp]? = some (.cells #[.pointer (some ⟨b, 0, none⟩)] 56 (0, 0))
  hbp : w.heap[Bp]? = some (.cells #[vB] 33 (0, 0))
  hf : w.heap[Fp]? = some (.cells #[.func (.func 37) #[] #[.pointer (some ⟨Lk, 0, none⟩), .pointer (some ⟨Bg, 0, none⟩), .pointer (some ⟨Vp, 0, none⟩), .pointer (some ⟨Bp, 0, none⟩), .pointer (some ⟨Fp, 0, none⟩)]] 60 (0, 0))
  hE : IsEv w b g n0 n2 A n c m vs
  hR : Kd.R (Kd.int .i64) 3 w N (fun k => k ≠ g ∧ k ≠ Lk ∧ k ≠ Bg) vB bits
  nLB : Lk ≠ Bg
  nLg : Lk ≠ g
  nBg : Bg ≠ g
  leL : N ≤ Lk
  leg : N ≤ g
theorem IsLk.keep {N : Nat} {w W : World} {Lk Bg Vp Bp Fp b g : Nat} {n0 n2 : Int} {A : Option Addr} {n c m : Nat} {vB : Value} {budget : Int} {bits : List Int} {looked : Int} {vs vs2 : List Int}
    (h : IsLk N w Lk Bg Vp Bp Fp b g n0 n2 A n c m vB budget bits looked vs) (hk : KB w W g N) (hE : IsEv W b g n0 n2 A n c m vs2) : IsLk N W Lk Bg Vp Bp Fp b g n0 n2 A n c m vB budget bits looked vs2 where
  hl := hk.keep.blk h.hl h.nLg (by simp)
  hbg := hk.keep.blk h.hbg h.nBg (by simp)
  hv := hk.keep.blk h.hv (blk_ne h.hv h.hE.hg (by decide)) (by simp)
  hbp := hk.keep.blk h.hbp (blk_ne h.hbp h.hE.hg (by decide)) (by simp)
  hf := hk.keep.blk h.hf (blk_ne h.hf h.hE.hg (by decide)) (by simp)
  hE := hE
  hR := Kd.R_keep h.hR hk.keep (fun _ hk => hk.1)
  nLB := h.nLB
  nLg := h.nLg
  nBg := h.nBg
  leL := h.leL
  leg := h.leg
theorem IsLk.below {N : Nat} {w W : World} {Lk Bg Vp Bp Fp b g : Nat} {n0 n2 : Int} {A : Option Addr} {n c m : Nat} {vB : Value} {budget : Int} {bits : List Int} {looked : Int} {vs : List Int}
    (h : IsLk N w Lk Bg Vp Bp Fp b g n0 n2 A n c m vB budget bits looked vs) (hb : Below w.heap.size w W) : IsLk N W Lk Bg Vp Bp Fp b g n0 n2 A n c m vB budget bits looked vs where
  hl := blk_below h.hl hb
  hbg := blk_below h.hbg hb
  hv := blk_below h.hv hb
  hbp := blk_below h.hbp hb
  hf := blk_below h.hf hb
  hE := h.hE.below hb
  hR := Kd.R_below h.hR hb
  nLB := h.nLB
  nLg := h.nLg
  nBg := h.nBg
  leL := h.leL
  leg := h.leg
/-- A bit is written. -/
theorem IsLk.bit {N : Nat} {w : World} {Lk Bg Vp Bp Fp b g : Nat} {n0 n2 : Int} {A : Option Addr} {n c m : Nat} {vB : Value} {budget : Int} {bits : List Int} {looked : Int} {vs : List Int}
    (h : IsLk N w Lk Bg Vp Bp Fp b g n0 n2 A n c m vB budget bits looked vs) (i : Int) (h0 : 0 ≤ i) (h1 : i < (bits.length : Int)) :
    ∃ q cq, vB = .slice (some ⟨q, 0, none⟩) bits.length cq ∧ N ≤ q ∧ w.cell? ⟨q, i.toNat, none⟩ = some (.int .i64 (rd bits i)) ∧ w.frozen? ⟨q, i.toNat, none⟩ = false ∧ (Fp ≠ q ∧ Bp ≠ q ∧ Vp ≠ q) ∧
      ∀ v : Int, IsLk N (w.setCell ⟨q, i.toNat, none⟩ (.int .i64 v)) Lk Bg Vp Bp Fp b g n0 n2 A n c m vB budget (bits.set i.toNat v) looked vs := by
  obtain ⟨q, cq, rfl, hq, hlt, cells, hcells⟩ := Kd.R_form h.hR (by omega)
  have hne := h.hR.1 q rfl
  have hc := Kd.R_cell (0 : Int) h.hR i h0 h1
  refine ⟨q, cq, rfl, hq, hc.1, hc.2, ⟨blk_ne h.hf hcells (by decide), blk_ne h.hbp hcells (by decide), blk_ne h.hv hcells (by decide)⟩, fun v => ?_⟩
  have hp := (Kd.R_put h.hR i v).1
  exact {
    hl := blk_far h.hl (p := ⟨q, i.toNat, none⟩) (Ne.symm hne.2.1) _
    hbg := blk_far h.hbg (p := ⟨q, i.toNat, none⟩) (Ne.symm hne.2.2) _
    hv := blk_far h.hv (p := ⟨q, i.toNat, none⟩) (blk_ne h.hv hcells (by decide)) _
    hbp := blk_far h.hbp (p := ⟨q, i.toNat, none⟩) (blk_ne h.hbp hcells (by decide)) _
    hf := blk_far h.hf (p := ⟨q, i.toNat, none⟩) (blk_ne h.hf hcells (by decide)) _
    hE := ⟨blk_far h.hE.he (p := ⟨q, i.toNat, none⟩) (blk_ne h.hE.he hcells (by decide)) _, blk_far h.hE.hg (p := ⟨q, i.toNat, none⟩) (Ne.symm hne.1) _, h.hE.ne⟩
    hR := hp
    nLB := h.nLB
    nLg := h.nLg
    nBg := h.nBg
    leL := h.leL
    leg := h.leg }
theorem outG_length {bits : List Int} : ∀ {gs : List S52} {i : Nat} {vs r : List Int}, outG bits gs i vs = some r → r.length = vs.length
  | [], _, vs, r, h => by rw [← Option.some.inj h]
  | g :: gs, i, vs, r, h => by
    obtain ⟨v, hv, h2⟩ := Option.bind_eq_some_iff.1 h
    exact (outG_length h2).trans (stepG_length hv)
set_option maxHeartbeats 16000000 in
set_option maxRecDepth 100000 in
theorem look_any (kf N Lk Bg Vp Bp Fp b g : Nat) (n0 n2 : Int) (A : Option Addr) (c m : Nat) (gs : List S52) (vB : Value) (budget : Int) : ∀ (f : Nat) (bits : List Int) (looked : Int) (vs : List Int) (r : Int × List Int × Int × List Int) (w : World),
    IsLk N w Lk Bg Vp Bp Fp b g n0 n2 A gs.length c m vB budget bits looked vs → Kd.F k52 w (fun k => k < N) A gs.length gs → vs.length ≤ 1000000 → lookF kf gs n0 n2 budget f bits looked vs = some r →
    Calls Try.prog 37 #[.pointer (some ⟨Lk, 0, none⟩), .pointer (some ⟨Bg, 0, none⟩), .pointer (some ⟨Vp, 0, none⟩), .pointer (some ⟨Bp, 0, none⟩), .pointer (some ⟨Fp, 0, none⟩)] w fun e w' =>
      e = .returned (.int .i64 r.1) ∧ IsLk N w' Lk Bg Vp Bp Fp b g n0 n2 A gs.length c m vB budget r.2.1 r.2.2.1 r.2.2.2 ∧ Below N w w' ∧ r.2.2.2.length = vs.length := by
  intro f
  induction f with
  | zero => intro bits looked vs r w _ _ _ h; cases h
  | succ f ih =>
    intro bits looked vs r w hS hG hlen h
    rw [lookF] at h
    have HG := Aside0.mk hG
    have HS := Aside0.mk hS
    have x0 : w.cell? ⟨Lk, 0, none⟩ = some (.int .i64 looked) := (blk_cell hS.hl 0).trans rfl
    have x0f := blk_frozen hS.hl 0
    have x1 : w.cell? ⟨Bg, 0, none⟩ = some (.int .i64 budget) := (blk_cell hS.hbg 0).trans rfl
    clear hS hG
    by_cases hb : looked = budget
    · rw [if_pos hb] at h
      obtain rfl := Option.some.inj h
      subst hb
      clear h ih
      go_enter Try.func37, Try.ntmps37
      go_wp2
      go_ret
      exact ⟨rfl, HS.out, Below.refl _ _, trivial⟩
    · rw [if_neg hb] at h
      obtain ⟨⟨vs1, r1⟩, ho, h2⟩ := Option.bind_eq_some_iff.1 h
      clear h
      have HI := Aside0.mk ih
      clear ih
      have H2 := Aside0.mk h2
      have HO := Aside0.mk ho
      clear h2 ho
      go_enter Try.func37, Try.ntmps37
      go_upto_region 4 with (fail)
      have hl1 := HS.out.hl
      have hS1 : IsLk N (w.setCell ⟨Lk, 0, none⟩ (.int .i64 (wrap64 (looked + 1)))) Lk Bg Vp Bp Fp b g n0 n2 A gs.length c m vB budget bits (wrap64 (looked + 1)) vs := {
        hl := blk_put HS.out.hl 0 _ rfl
        hbg := blk_far HS.out.hbg (p := ⟨Lk, 0, none⟩) (Ne.symm HS.out.nLB) _
        hv := blk_far HS.out.hv (p := ⟨Lk, 0, none⟩) (blk_ne HS.out.hv HS.out.hl (by decide)) _
        hbp := blk_far HS.out.hbp (p := ⟨Lk, 0, none⟩) (blk_ne HS.out.hbp HS.out.hl (by decide)) _
        hf := blk_far HS.out.hf (p := ⟨Lk, 0, none⟩) (blk_ne HS.out.hf HS.out.hl (by decide)) _
        hE := ⟨blk_far HS.out.hE.he (p := ⟨Lk, 0, none⟩) (blk_ne HS.out.hE.he HS.out.hl (by decide)) _, blk_far HS.out.hE.hg (p := ⟨Lk, 0, none⟩) (Ne.symm HS.out.nLg) _, HS.out.hE.ne⟩
        hR := Kd.R_far HS.out.hR (p := ⟨Lk, 0, none⟩) (fun _ h => h.2.1) _
        nLB := HS.out.nLB
        nLg := HS.out.nLg
        nBg := HS.out.nBg
        leL := HS.out.leL
        leg := HS.out.leg }
      have hB1 : Below N w (w.setCell ⟨Lk, 0, none⟩ (.int .i64 (wrap64 (looked + 1)))) := (Below.refl N w).setCell (p := ⟨Lk, 0, none⟩) HS.out.leL _
      have hG1 := Kd.F_far HG.out (p := ⟨Lk, 0, none⟩) (fun k (hk : k < N) => by have := HS.out.leL; show k ≠ Lk; omega) (.int .i64 (wrap64 (looked + 1)))
      generalize w.setCell ⟨Lk, 0, none⟩ (.int .i64 (wrap64 (looked + 1))) = W1 at hS1 hB1 hG1 ⊢
      generalize wrap64 (looked + 1) = lk1 at hS1 H2 ⊢
      clear HS HG x0 x0f x1 hl1
      obtain ⟨Ab, cb, rfl, hcb, hCb⟩ := Kd.R_reads hS1.hR
      have hout := output_any b g N hS1.leg n0 n2 A c m gs Ab cb bits vs vs1 r1 W1 hS1.hE (Kd.F_mono hG1 (fun k (hk : k < N) => by have := hS1.leg; show k ≠ g; omega)) (Kd.F_mono (Kd.R_F hS1.hR) (fun k hk => hk.1)) (by omega) HO.out
      have x2 : W1.cell? ⟨Vp, 0, none⟩ = some (.pointer (some ⟨b, 0, none⟩)) := (blk_cell hS1.hv 0).trans rfl
      have x3 : W1.cell? ⟨Bp, 0, none⟩ = some (.slice Ab bits.length cb) := (blk_cell hS1.hbp 0).trans rfl
      have HS1 := Aside0.mk hS1
      have HB1 := Aside0.mk hB1
      have HG1 := Aside0.mk hG1
      clear hS1 hB1 hG1 hCb
      have hvl : vs1.length = vs.length := by
        obtain ⟨v, hv, h3⟩ := Option.bind_eq_some_iff.1 HO.out
        have hl := outG_length hv
        split at h3
        · have e := Option.some.inj h3
          have e1 : v = vs1 := congrArg Prod.fst e
          rw [← e1]
          exact hl
        · cases h3
      have HVL := Aside0.mk hvl
      clear hvl
      by_cases q0 : r1 = 0
      · have h2 := H2.out
        rw [if_pos q0] at h2
        obtain rfl := Option.some.inj h2
        subst q0
        clear H2 h2
        go_wp2_with (go_at_call 35; refine hout.mono ?_; rintro e w2 ⟨rfl, hE2, hK2⟩; have HE2 := Aside0.mk hE2; have HK2 := Aside0.mk hK2; clear hE2 hK2)
        go_ret
        exact ⟨rfl, HS1.out.keep HK2.out HE2.out, HB1.out.trans HK2.out.bel, HVL.out⟩
      · by_cases q1 : r1 = 1
        · have h2 := H2.out
          rw [if_neg q0, if_pos q1] at h2
          obtain rfl := Option.some.inj h2
          subst q1
          clear H2 h2
          go_wp2_with (go_at_call 35; refine hout.mono ?_; rintro e w2 ⟨rfl, hE2, hK2⟩; have HE2 := Aside0.mk hE2; have HK2 := Aside0.mk hK2; clear hE2 hK2)
          go_ret
          exact ⟨rfl, HS1.out.keep HK2.out HE2.out, HB1.out.trans HK2.out.bel, HVL.out⟩
        · have h2 := H2.out
          rw [if_neg q0, if_neg q1] at h2
          obtain ⟨nx, hnx, h3⟩ := Option.bind_eq_some_iff.1 h2
          clear h2 H2
          by_cases hi : 0 ≤ nx ∧ nx < (bits.length : Int)
          case neg => rw [if_neg hi] at h3; cases h3
          rw [if_pos hi] at h3
          obtain ⟨hi0, hi1⟩ := hi
          have H3 := Aside0.mk h3
          clear h3
          obtain ⟨q, cq, he, hNq, _, _, ⟨nFq, nBq, nVq⟩, _⟩ := HS1.out.bit nx hi0 hi1
          cases he
          have en : ((nx.toNat : Nat) : Int) = nx := by omega
          go_wp2_with (first | (go_at_call 35; refine hout.mono ?_; rintro e w2 ⟨rfl, hE2, hK2⟩; have HS2 := Aside0.mk (HS1.out.keep hK2 hE2); have HB2 := Aside0.mk (HB1.out.trans hK2.bel); have HG2 := Aside0.mk (Kd.F_step HG1.out (fun k (hk : k < N) _ => hK2.bel.block k hk)); have y0 : w2.cell? ⟨Vp, 0, none⟩ = some (.pointer (some ⟨b, 0, none⟩)) := (blk_cell HS2.out.hv 0).trans rfl; clear hE2 hK2 hout) | (go_at_call 38; refine (relevant_any kf b g n0 n2 A c m gs vs1 nx w2 HS2.out.hE (Kd.F_now HG2.out) (by have := HVL.out; omega) hnx).mono ?_; rintro e w3 ⟨rfl, hb3⟩; have HS3 := Aside0.mk (HS2.out.below hb3); have HB3 := Aside0.mk (HB2.out.trans (hb3.mono (by have := HB2.out.size; have := blk_lt HS2.out.hl; have := HS2.out.leL; omega))); have HG3 := Aside0.mk (Kd.F_below HG2.out hb3); have z3 : w3.cell? ⟨Bp, 0, none⟩ = some (.slice (some ⟨q, 0, none⟩) bits.length cb) := (blk_cell HS3.out.hbp 0).trans rfl; obtain ⟨q', cq', he', _, hxc, hxf, _, hput⟩ := HS3.out.bit nx hi0 hi1; cases he'; have HPUT := Aside0.mk hput; clear hput; have z4 : w3.cell? ⟨Fp, 0, none⟩ = some (.func (.func 37) #[] #[.pointer (some ⟨Lk, 0, none⟩), .pointer (some ⟨Bg, 0, none⟩), .pointer (some ⟨Vp, 0, none⟩), .pointer (some ⟨Bp, 0, none⟩), .pointer (some ⟨Fp, 0, none⟩)]) := (blk_cell HS3.out.hf 0).trans rfl; clear hb3 y0))
          obtain ⟨⟨e1, b1, l1, v1⟩, hra, h4⟩ := Option.bind_eq_some_iff.1 H3.out
          have hS4 := HPUT.out 0
          have hB4 := HB3.out.setCell (p := ⟨q, nx.toNat, none⟩) hNq (.int .i64 0)
          have hG4 := Kd.F_far HG3.out (p := ⟨q, nx.toNat, none⟩) (fun k (hk : k < N) => by show k ≠ q; omega) (.int .i64 0)
          generalize w3.setCell ⟨q, nx.toNat, none⟩ (.int .i64 0) = w4 at hS4 hB4 hG4 ⊢
          clear HPUT hxc hxf z3 z4 HS3 HB3 HG3 HS1 HB1 HG1 HS2 HB2 HG2 x2 x3 H3
          have hB4 : Below N w w4 := hB4
          have hN4 : N ≤ w4.heap.size := by have := blk_lt hS4.hl; have := hS4.leL; omega
          refine (HI.out (bits.set nx.toNat 0) lk1 vs1 (e1, b1, l1, v1) w4 hS4 hG4 (by have := HVL.out; omega) hra).mono ?_
          rintro e w5 ⟨rfl, hS5, hb5, hl5⟩
          have HS5 := Aside0.mk hS5
          have HB5 := Aside0.mk (hB4.trans hb5)
          have HG5 := Aside0.mk (Kd.F_step hG4 (fun k (hk : k < N) _ => hb5.block k hk))
          have HL5 := Aside0.mk (hl5.trans HVL.out)
          clear hS4 hG4 hB4 hS5 hb5 hl5 hra hN4
          by_cases e4 : e1 = 4
          · rw [if_pos e4] at h4
            by_cases hi5 : nx < (b1.length : Int)
            case neg => rw [if_neg hi5] at h4; cases h4
            rw [if_pos hi5] at h4
            obtain ⟨⟨e2, b2, l2, v2⟩, hra2, h5⟩ := Option.bind_eq_some_iff.1 h4
            subst e4
            clear h4
            obtain ⟨q5, cq5, he5, _, hxc5, hxf5, _, hput5⟩ := HS5.out.bit nx hi0 hi5
            injection he5 with ha5 hn5 hc5
            injection ha5 with ha5
            injection ha5 with ha5
            subst ha5
            clear hn5 hc5
            have HPUT5 := Aside0.mk hput5
            clear hput5
            have z3 : w5.cell? ⟨Bp, 0, none⟩ = some (.slice (some ⟨q, 0, none⟩) bits.length cb) := (blk_cell HS5.out.hbp 0).trans rfl
            have z4 : w5.cell? ⟨Fp, 0, none⟩ = some (.func (.func 37) #[] #[.pointer (some ⟨Lk, 0, none⟩), .pointer (some ⟨Bg, 0, none⟩), .pointer (some ⟨Vp, 0, none⟩), .pointer (some ⟨Bp, 0, none⟩), .pointer (some ⟨Fp, 0, none⟩)]) := (blk_cell HS5.out.hf 0).trans rfl
            have H5 := Aside0.mk h5
            clear h5
            go_wp2_with fail
            have hS6 := HPUT5.out 1
            have hB6 := HB5.out.setCell (p := ⟨q, nx.toNat, none⟩) hNq (.int .i64 1)
            have hG6 := Kd.F_far HG5.out (p := ⟨q, nx.toNat, none⟩) (fun k (hk : k < N) => by show k ≠ q; omega) (.int .i64 1)
            generalize w5.setCell ⟨q, nx.toNat, none⟩ (.int .i64 1) = w6 at hS6 hB6 hG6 ⊢
            clear HPUT5 hxc5 hxf5 z3 z4 HS5 HB5 HG5
            have hB6 : Below N w w6 := hB6
            refine (HI.out (b1.set nx.toNat 1) l1 v1 (e2, b2, l2, v2) w6 hS6 hG6 (by have : v1.length = vs.length := HL5.out; omega) hra2).mono ?_
            rintro e w7 ⟨rfl, hS7, hb7, hl7⟩
            have HS7 := Aside0.mk hS7
            have HB7 := Aside0.mk (hB6.trans hb7)
            have HL7 := Aside0.mk (hl7.trans HL5.out)
            clear hS6 hG6 hB6 hS7 hb7 hl7 hra2
            by_cases e6 : e2 = 4
            · have h6 := H5.out
              rw [if_pos e6] at h6
              by_cases hi7 : nx < (b2.length : Int)
              case neg => rw [if_neg hi7] at h6; cases h6
              rw [if_pos hi7] at h6
              obtain rfl := Option.some.inj h6
              subst e6
              clear h6 H5
              obtain ⟨q7, cq7, he7, _, hxc7, hxf7, _, hput7⟩ := HS7.out.bit nx hi0 hi7
              injection he7 with ha7 hn7 hc7
              injection ha7 with ha7
              injection ha7 with ha7
              subst ha7
              clear hn7 hc7
              have HPUT7 := Aside0.mk hput7
              clear hput7
              have z3 : w7.cell? ⟨Bp, 0, none⟩ = some (.slice (some ⟨q, 0, none⟩) bits.length cb) := (blk_cell HS7.out.hbp 0).trans rfl
              go_wp2
              go_ret
              exact ⟨rfl, HPUT7.out 2, HB7.out.setCell (p := ⟨q, nx.toNat, none⟩) hNq (.int .i64 2), HL7.out⟩
            · have h6 := H5.out
              rw [if_neg e6] at h6
              obtain rfl := Option.some.inj h6
              clear h6 H5
              go_wp2
              go_ret
              exact ⟨rfl, HS7.out, HB7.out, HL7.out⟩
          · rw [if_neg e4] at h4
            obtain rfl := Option.some.inj h4
            clear h4
            go_wp2
            go_ret
            exact ⟨rfl, HS5.out, HB5.out, HL5.out⟩
theorem relL_mono (gs : List S52) (vs : List Int) : ∀ (f : Nat) (seen : List Bool) (todo : List Int) (first : Int), LeO (relL gs vs f seen todo first) (relL gs vs (f + 1) seen todo first)
  | 0, _, _, _ => fun r h => by simp [relL] at h
  | f + 1, seen, todo, first => by
    have ih := relL_mono gs vs f
    unfold relL
    repeat' first
      | exact ih _ _ _
      | exact LeO.refl _
      | refine LeO.ite ?_ ?_
theorem relF_mono (gs : List S52) (n0 n2 : Int) (vs : List Int) (k : Nat) : LeO (relF k gs n0 n2 vs) (relF (k + 1) gs n0 n2 vs) := relL_mono gs vs k _ _ _
theorem lookF_mono (gs : List S52) (n0 n2 budget : Int) (kf : Nat) : ∀ (f : Nat) (bits : List Int) (looked : Int) (vs : List Int), LeO (lookF kf gs n0 n2 budget f bits looked vs) (lookF (kf + 1) gs n0 n2 budget (f + 1) bits looked vs)
  | 0, _, _, _ => fun r h => by simp [lookF] at h
  | f + 1, bits, looked, vs => by
    have ih := lookF_mono gs n0 n2 budget kf f
    rw [lookF, lookF]
    refine LeO.ite (LeO.refl _) (LeO.bind (LeO.refl _) (fun o => LeO.ite (LeO.refl _) (LeO.ite (LeO.refl _) (LeO.bind (relF_mono gs n0 n2 o.1 kf) (fun nx => LeO.ite (LeO.bind (ih _ _ _) (fun r1 => LeO.ite (LeO.ite (LeO.bind (ih _ _ _) (fun r2 => LeO.refl _)) (LeO.refl _)) (LeO.refl _))) (LeO.refl _))))))
def sat_Least.f (k : Nat) (a0_0 : Int) (l0_1 : List (S52)) (a0_2 : Int) (l1 : List Int) (a2 : Int) : Option (List Bool × Int × Int) :=
  (sat_partial.f k a0_0 l0_1 a0_2 l1).bind fun t =>
    if t = true then
      (if a2 < 1 then some ([], 0, 1)
      else if a2 > 1048576 then some ([], 0, 1)
      else if l0_1.length ≤ 1000000 then
        (if l1.length ≤ 1000000 then
          (lookF k l0_1 a0_0 a0_2 a2 k l1 0 (List.replicate l0_1.length 0)).bind fun r => if r.1 = 0 then (if r.2.1.length = l1.length then some (r.2.1.map (fun b => b == 1), r.2.2.1, 0) else none) else some ([], 0, r.1)
        else none)
      else none)
    else some ([], 0, 1)
theorem sat_Least.mono (a0_0 : Int) (l0_1 : List (S52)) (a0_2 : Int) (l1 : List Int) (a2 : Int) (k : Nat) : LeO (sat_Least.f k a0_0 l0_1 a0_2 l1 a2) (sat_Least.f (k + 1) a0_0 l0_1 a0_2 l1 a2) :=
  LeO.bind (sat_partial.mono _ _ _ _ _) (fun t => LeO.ite (LeO.ite (LeO.refl _) (LeO.ite (LeO.refl _) (LeO.ite (LeO.ite (LeO.bind (lookF_mono _ _ _ _ _ _ _ _ _) (fun r => LeO.refl _)) (LeO.refl _)) (LeO.refl _)))) (LeO.refl _))
theorem R_bools {w : World} {g base n : Nat} {l : List Bool} (h : w.heap[g]? = some (.cells (bvals l) 4 (0, 0))) (hb : base ≤ g) (hn : l.length = n) (hm : n ≤ 1000000) : Kd.R Kd.bool 4 w base (fun _ => True) (.slice (some ⟨g, 0, none⟩) n n) l := by
  subst hn
  refine Kd.R_of_own ⟨by simp [encs], .inr ⟨g, l.length, bvals l, rfl, hb, h, Nat.le_refl _, by unfold maxLen; omega, by simp [bvals], ?_⟩⟩ (fun _ _ => trivial)
  simp [bvals, encs, List.take_of_length_le]
set_option maxHeartbeats 16000000 in
set_option maxRecDepth 100000 in
theorem sat_Least.calls (k : Nat) (a0_0 : Int) (A0_1 : Option Addr) (c0_1 : Nat) (l0_1 : List (S52)) (a0_2 : Int) (A1 : Option Addr) (c1 : Nat) (l1 : List Int) (a2 : Int) (r1 : List Bool) (r2 : Int) (r3 : Int) (w : World) (hr0_1 : Kd.C k52 w A0_1 l0_1.length l0_1) (hc0_1 : l0_1.length ≤ c0_1) (hr1 : Kd.C (Kd.int .i64) w A1 l1.length l1) (hc1 : l1.length ≤ c1) (h : sat_Least.f k a0_0 l0_1 a0_2 l1 a2 = some (r1, r2, r3)) :
    Calls Try.prog 22 #[.agg #[.int .i64 a0_0, .slice A0_1 l0_1.length c0_1, .int .i64 a0_2], .slice A1 l1.length c1, .int .i64 a2] w fun e w' => ∃ v0_ : Value, e = .returned (.tuple #[v0_, .int .i64 r2, .int .i64 r3]) ∧ Kd.R Kd.bool 4 w' w.heap.size (fun _ => True) v0_ r1 ∧ Below w.heap.size w w' := by
  obtain ⟨t, ht, h2⟩ := Option.bind_eq_some_iff.1 h
  clear h
  have hp := fun (W : World) (hW : Below w.heap.size w W) => sat_partial.calls k a0_0 A0_1 c0_1 l0_1 a0_2 A1 c1 l1 t W (Kd.C_below hr0_1 hW) hc0_1 (Kd.C_below hr1 hW) hc1 ht
  have hu24 := Try.underlying24
  have hmf : ∀ (fn : Fn) (first cap : Array Value) (w : World), (Instr.makeFunc fn first cap).run Try.prog w = .ok (.func fn first cap) w := fun _ _ _ _ => rfl
  clear ht
  have quit : t = false ∨ a2 < 1 ∨ a2 > 1048576 → r1 = [] ∧ r2 = 0 ∧ r3 = 1 → Calls Try.prog 22 #[.agg #[.int .i64 a0_0, .slice A0_1 l0_1.length c0_1, .int .i64 a0_2], .slice A1 l1.length c1, .int .i64 a2] w fun e w' => ∃ v0_ : Value, e = .returned (.tuple #[v0_, .int .i64 r2, .int .i64 r3]) ∧ Kd.R Kd.bool 4 w' w.heap.size (fun _ => True) v0_ r1 ∧ Below w.heap.size w w' := by
    rintro hq ⟨rfl, rfl, rfl⟩
    cases t with
    | false =>
      go_enter Try.func22, Try.ntmps22
      go_wp2_with (go_at_call 33; refine (hp _ (below_alloc (below_alloc (Below.refl _ _) _) _)).mono ?_; rintro e w1 ⟨rfl, hb1⟩; have hz : w1.cell? ⟨w.heap.size + 1, 0, none⟩ = some (.int .i64 a2) := (hb1.cell (p := ⟨w.heap.size + 1, 0, none⟩) (by simp)).trans (World.cell?_alloc_at _ _ _ _ (by simp)); have HB1 := Aside0.mk ((below_alloc (below_alloc (Below.refl w.heap.size w) (.cells #[.int .i64 a0_0, .slice A0_1 l0_1.length c0_1, .int .i64 a0_2] 24)) (.cells #[.int .i64 a2] 3)).trans (hb1.mono (by simp; omega))); clear hb1 hp)
      go_ret3
      exact ⟨_, rfl, Kd.R_nil _ _ _ _ _, HB1.out⟩
    | true =>
      by_cases hb1 : a2 < 1
      · go_enter Try.func22, Try.ntmps22
        go_wp2_with (go_at_call 33; refine (hp _ (below_alloc (below_alloc (Below.refl _ _) _) _)).mono ?_; rintro e w1 ⟨rfl, hb1⟩; have hz : w1.cell? ⟨w.heap.size + 1, 0, none⟩ = some (.int .i64 a2) := (hb1.cell (p := ⟨w.heap.size + 1, 0, none⟩) (by simp)).trans (World.cell?_alloc_at _ _ _ _ (by simp)); have HB1 := Aside0.mk ((below_alloc (below_alloc (Below.refl w.heap.size w) (.cells #[.int .i64 a0_0, .slice A0_1 l0_1.length c0_1, .int .i64 a0_2] 24)) (.cells #[.int .i64 a2] 3)).trans (hb1.mono (by simp; omega))); clear hb1 hp)
        go_ret3
        exact ⟨_, rfl, Kd.R_nil _ _ _ _ _, HB1.out⟩
      · have hb2 : a2 > 1048576 := by
          rcases hq with h | h | h
          · cases h
          · exact absurd h hb1
          · exact h
        go_enter Try.func22, Try.ntmps22
        go_wp2_with (go_at_call 33; refine (hp _ (below_alloc (below_alloc (Below.refl _ _) _) _)).mono ?_; rintro e w1 ⟨rfl, hb1⟩; have hz : w1.cell? ⟨w.heap.size + 1, 0, none⟩ = some (.int .i64 a2) := (hb1.cell (p := ⟨w.heap.size + 1, 0, none⟩) (by simp)).trans (World.cell?_alloc_at _ _ _ _ (by simp)); have HB1 := Aside0.mk ((below_alloc (below_alloc (Below.refl w.heap.size w) (.cells #[.int .i64 a0_0, .slice A0_1 l0_1.length c0_1, .int .i64 a0_2] 24)) (.cells #[.int .i64 a2] 3)).trans (hb1.mono (by simp; omega))); clear hb1 hp)
        go_ret3
        exact ⟨_, rfl, Kd.R_nil _ _ _ _ _, HB1.out⟩
  cases t with
  | false =>
    rw [if_neg (by decide)] at h2
    injection h2 with h2
    injection h2 with e1 e2
    injection e2 with e2 e3
    exact quit (.inl rfl) ⟨e1.symm, e2.symm, e3.symm⟩
  | true =>
    rw [if_pos rfl] at h2
    by_cases hb1 : a2 < 1
    · rw [if_pos hb1] at h2
      injection h2 with h2
      injection h2 with e1 e2
      injection e2 with e2 e3
      exact quit (.inr (.inl hb1)) ⟨e1.symm, e2.symm, e3.symm⟩
    rw [if_neg hb1] at h2
    by_cases hb2 : a2 > 1048576
    · rw [if_pos hb2] at h2
      injection h2 with h2
      injection h2 with e1 e2
      injection e2 with e2 e3
      exact quit (.inr (.inr hb2)) ⟨e1.symm, e2.symm, e3.symm⟩
    rw [if_neg hb2] at h2
    by_cases hl : l0_1.length ≤ 1000000
    case neg => rw [if_neg hl] at h2; cases h2
    rw [if_pos hl] at h2
    by_cases hl1 : l1.length ≤ 1000000
    case neg => rw [if_neg hl1] at h2; cases h2
    rw [if_pos hl1] at h2
    obtain ⟨⟨e1, b1, k1, v1⟩, hlk, h3⟩ := Option.bind_eq_some_iff.1 h2
    clear h2 quit
    have hn := fun (W : World) (hW : Below w.heap.size w W) => newEvaluator_any a0_0 A0_1 c0_1 l0_1 a0_2 W (Kd.C_below hr0_1 hW) hl
    have HG := Aside0.mk (Kd.C_F heap52 hr0_1)
    have HF := Aside0.mk hr1
    have HK := Aside0.mk hlk
    have H3 := Aside0.mk h3
    clear hlk h3 hr0_1 hr1
    go_enter Try.func22, Try.ntmps22
    go_upto_region 4 with (first | (go_at_call 33; refine (hp _ (below_alloc (below_alloc (Below.refl _ _) _) _)).mono ?_; rintro e w1 ⟨rfl, hb1⟩; have hz : w1.cell? ⟨w.heap.size + 1, 0, none⟩ = some (.int .i64 a2) := (hb1.cell (p := ⟨w.heap.size + 1, 0, none⟩) (by simp)).trans (World.cell?_alloc_at _ _ _ _ (by simp)); have hX0 : (((w.alloc (.cells #[.int .i64 a0_0, .slice A0_1 l0_1.length c0_1, .int .i64 a0_2] 24)).alloc (.cells #[.int .i64 a2] 3))).heap[w.heap.size]? = some (.cells #[.int .i64 a0_0, .slice A0_1 l0_1.length c0_1, .int .i64 a0_2] 24 (0, 0)) := blk_alloc (heap_alloc_new w _) _; have hX1 := blk_below hX0 hb1; have y0 : w1.cell? ⟨w.heap.size, 0, none⟩ = some (.int .i64 a0_0) := (blk_cell hX1 0).trans rfl; have y1 : w1.cell? ⟨w.heap.size, 1, none⟩ = some (.slice A0_1 l0_1.length c0_1) := (blk_cell hX1 1).trans rfl; have y2 : w1.cell? ⟨w.heap.size, 2, none⟩ = some (.int .i64 a0_2) := (blk_cell hX1 2).trans rfl; have HBg := Aside0.mk (blk_below (show (((w.alloc (.cells #[.int .i64 a0_0, .slice A0_1 l0_1.length c0_1, .int .i64 a0_2] 24)).alloc (.cells #[.int .i64 a2] 3))).heap[w.heap.size + 1]? = some (.cells #[.int .i64 a2] 3 (0, 0)) from by have h := heap_alloc_new (w.alloc (.cells #[.int .i64 a0_0, .slice A0_1 l0_1.length c0_1, .int .i64 a0_2] 24)) (.cells #[.int .i64 a2] 3); rwa [World.size_alloc] at h) hb1); have HB1 := Aside0.mk ((below_alloc (below_alloc (Below.refl w.heap.size w) (.cells #[.int .i64 a0_0, .slice A0_1 l0_1.length c0_1, .int .i64 a0_2] 24)) (.cells #[.int .i64 a2] 3)).trans (hb1.mono (by simp; omega))); clear hb1 hp hX0 hX1) | (go_at_call 34; refine (hn _ HB1.out).mono ?_; rintro e w2 ⟨b, g, rfl, hb, hg, hE, hb2⟩; have HB2 := Aside0.mk (HB1.out.trans (hb2.mono HB1.out.size)); have HE := Aside0.mk hE; have Hg := Aside0.mk hg; have Hb := Aside0.mk hb; have HBg2 := Aside0.mk (blk_below HBg.out hb2); clear hb2 hE hg hb hn y0 y1 y2 hz))
    have hVp := heap_alloc_new w2 (.cells #[.pointer (some ⟨b, 0, none⟩)] 56)
    have hE3 := HE.out.alloc (.cells #[.pointer (some ⟨b, 0, none⟩)] 56)
    have hBg3 := blk_alloc HBg2.out (.cells #[.pointer (some ⟨b, 0, none⟩)] 56)
    have hB3 := below_alloc HB2.out (.cells #[.pointer (some ⟨b, 0, none⟩)] 56)
    have hgB : g ≠ w.heap.size + 1 := by have := Hg.out; have := blk_lt HBg.out; omega
    have hle : w.heap.size ≤ g := Nat.le_trans HB1.out.size Hg.out
    generalize w2.alloc (.cells #[.pointer (some ⟨b, 0, none⟩)] 56) = W3 at hVp hE3 hBg3 hB3 ⊢
    generalize w2.heap.size = Vp at hVp ⊢
    have HVp := Aside0.mk hVp
    have HE3 := Aside0.mk hE3
    have HBg3 := Aside0.mk hBg3
    have HB3 := Aside0.mk hB3
    clear hVp hE3 hBg3 hB3 HBg HBg2 HB1 HB2 HE Hg Hb
    go_upto_region 5 with (first | ((with_reducible refine gate_dst (N := 31) rfl ?_); refine Kd.R_lit (Kd.int .i64) _ 3 ?hg (N := 31) ?hd (xs := ([] : List Int)) (inner := []) (ok := fun _ => True) (okp := fun _ => True) ?hr ?hp (fun _ hk => hk) trivial (Below.refl _ _) (Nat.le_refl _) (by simp) ?_; (case hd => rfl); (case hg => rfl); (case hr => first | (go_simp; done) | (go_simp; rfl)); (case hp => exact (Reps.none _ _)); intro v4 w4 ho4 hb4 _ _; have HO4 := Aside0.mk ho4; have HB4 := Aside0.mk hb4; clear ho4 hb4) | ((with_reducible refine gate_builtin (b := .append) (xs := #[.tmp 31, .tmp 32]) rfl ?_); at_builtin; refine Kd.R_append_rows (Kd.int .i64) (w0 := W3) W3.heap.size rfl (.tmp 31) (.tmp 32) 33 3 (.int .i64 0) 8 rfl Try.underlying33 info3 rfl (by decide) (by omega) v4 [] l1 _ _ _ (fun _ => True) (fun _ => False) rfl rfl HO4.out (Kd.C_below (Kd.C_below HF.out HB3.out) HB4.out) (fun _ _ h => h) (fun _ h => h.elim) (fun _ _ => trivial) HB4.out HB4.out.size (by simp only [List.length_nil]; omega) ?_; intro v5 w5 ho5 hb5 _ _; rw [List.nil_append] at ho5; obtain ⟨Av, cv, rfl, _, _⟩ := Kd.R_reads ho5; have HO5 := Aside0.mk ho5; have HB5 := Aside0.mk hb5; clear ho5 hb5))
    have hO5 := Kd.R_alloc (Kd.R_lower (Kd.R_mono (Kd.R_bound HO5.out) (fun q (hq : True ∧ W3.heap.size ≤ q ∧ q < w5.heap.size ∧ _) => (⟨by have := blk_lt HE3.out.hg; omega, by have := blk_lt HBg3.out; omega, hq.2.2.1⟩ : q ≠ g ∧ q ≠ w.heap.size + 1 ∧ q < w5.heap.size))) HB3.out.size) (.cells #[.slice Av l1.length cv] 33)
    have hBp := heap_alloc_new w5 (.cells #[.slice Av l1.length cv] 33)
    have hV5 := blk_alloc (blk_below HVp.out HB5.out) (.cells #[.slice Av l1.length cv] 33)
    have hE5 := (HE3.out.below HB5.out).alloc (.cells #[.slice Av l1.length cv] 33)
    have hBg5 := blk_alloc (blk_below HBg3.out HB5.out) (.cells #[.slice Av l1.length cv] 33)
    have hB5 := below_alloc (HB3.out.trans (HB5.out.mono HB3.out.size)) (.cells #[.slice Av l1.length cv] 33)
    have hsz : (w5.alloc (.cells #[.slice Av l1.length cv] 33)).heap.size = w5.heap.size + 1 := World.size_alloc _ _
    generalize w5.alloc (.cells #[.slice Av l1.length cv] 33) = W6 at hO5 hBp hV5 hE5 hBg5 hB5 hsz ⊢
    generalize w5.heap.size = Bp at hO5 hBp hsz ⊢
    have HO6 := Aside0.mk hO5
    have HBp := Aside0.mk hBp
    have HV6 := Aside0.mk hV5
    have HE6 := Aside0.mk hE5
    have HBg6 := Aside0.mk hBg5
    have HB6 := Aside0.mk hB5
    have HSZ := Aside0.mk hsz
    clear hO5 hBp hV5 hE5 hBg5 hB5 hsz HO5 HB5 HO4 HB4 HVp HE3 HBg3 HB3
    have hFn : ((W6.alloc (.cells #[.int .i64 0] 3)).alloc (.cells #[.nilFunc] 60)).heap[W6.heap.size + 1]? = some (.cells #[.nilFunc] 60 (0, 0)) := by
      have h := heap_alloc_new (W6.alloc (.cells #[.int .i64 0] 3)) (.cells #[.nilFunc] 60)
      rwa [World.size_alloc] at h
    have f0 : ((W6.alloc (.cells #[.int .i64 0] 3)).alloc (.cells #[.nilFunc] 60)).cell? ⟨W6.heap.size + 1, 0, none⟩ = some .nilFunc := (blk_cell hFn 0).trans rfl
    have f1 := blk_frozen hFn 0
    have hsf := fun (w : World) (a : Addr) (fn : Fn) (fi ca : Array Value) (m : Mode) => run_store Try.prog w a (.func fn fi ca) m rfl
    go_upto_region 8 with (fail)
    have hFn2 : ((W6.alloc (.cells #[.int .i64 0] 3)).alloc (.cells #[.func (.func 37) #[] #[.pointer (some ⟨W6.heap.size, 0, none⟩), .pointer (some ⟨w.heap.size + 1, 0, none⟩), .pointer (some ⟨Vp, 0, none⟩), .pointer (some ⟨Bp, 0, none⟩), .pointer (some ⟨W6.heap.size + 1, 0, none⟩)]] 60)).heap[W6.heap.size + 1]? = some (.cells #[.func (.func 37) #[] #[.pointer (some ⟨W6.heap.size, 0, none⟩), .pointer (some ⟨w.heap.size + 1, 0, none⟩), .pointer (some ⟨Vp, 0, none⟩), .pointer (some ⟨Bp, 0, none⟩), .pointer (some ⟨W6.heap.size + 1, 0, none⟩)]] 60 (0, 0)) := by
      have h := heap_alloc_new (W6.alloc (.cells #[.int .i64 0] 3)) (.cells #[.func (.func 37) #[] #[.pointer (some ⟨W6.heap.size, 0, none⟩), .pointer (some ⟨w.heap.size + 1, 0, none⟩), .pointer (some ⟨Vp, 0, none⟩), .pointer (some ⟨Bp, 0, none⟩), .pointer (some ⟨W6.heap.size + 1, 0, none⟩)]] 60)
      rwa [World.size_alloc] at h
    clear hFn f0 f1 hsf
    have hB7 : Below W6.heap.size W6 ((W6.alloc (.cells #[.int .i64 0] 3)).alloc (.cells #[.func (.func 37) #[] #[.pointer (some ⟨W6.heap.size, 0, none⟩), .pointer (some ⟨w.heap.size + 1, 0, none⟩), .pointer (some ⟨Vp, 0, none⟩), .pointer (some ⟨Bp, 0, none⟩), .pointer (some ⟨W6.heap.size + 1, 0, none⟩)]] 60)) := below_alloc (below_alloc (Below.refl _ _) _) _
    have hL7 : ((W6.alloc (.cells #[.int .i64 0] 3)).alloc (.cells #[.func (.func 37) #[] #[.pointer (some ⟨W6.heap.size, 0, none⟩), .pointer (some ⟨w.heap.size + 1, 0, none⟩), .pointer (some ⟨Vp, 0, none⟩), .pointer (some ⟨Bp, 0, none⟩), .pointer (some ⟨W6.heap.size + 1, 0, none⟩)]] 60)).heap[W6.heap.size]? = some (.cells #[.int .i64 0] 3 (0, 0)) := blk_alloc (heap_alloc_new W6 _) _
    have hS7 : IsLk w.heap.size ((W6.alloc (.cells #[.int .i64 0] 3)).alloc (.cells #[.func (.func 37) #[] #[.pointer (some ⟨W6.heap.size, 0, none⟩), .pointer (some ⟨w.heap.size + 1, 0, none⟩), .pointer (some ⟨Vp, 0, none⟩), .pointer (some ⟨Bp, 0, none⟩), .pointer (some ⟨W6.heap.size + 1, 0, none⟩)]] 60)) W6.heap.size (w.heap.size + 1) Vp Bp (W6.heap.size + 1) b g a0_0 a0_2 A0_1 l0_1.length c0_1 l0_1.length (.slice Av l1.length cv) a2 l1 0 (List.replicate l0_1.length 0) := {
      hl := hL7
      hbg := blk_below HBg6.out hB7
      hv := blk_below HV6.out hB7
      hbp := blk_below HBp.out hB7
      hf := hFn2
      hE := HE6.out.below hB7
      hR := Kd.R_mono (Kd.R_below HO6.out hB7) (fun q hq => ⟨hq.1, by have := hq.2.2; have := HSZ.out; omega, hq.2.1⟩)
      nLB := by have := blk_lt HBg6.out; omega
      nLg := by have := blk_lt HE6.out.hg; omega
      nBg := Ne.symm hgB
      leL := HB6.out.size
      leg := hle }
    have hB8 := HB6.out.trans (hB7.mono HB6.out.size)
    have hG8 := Kd.F_below HG.out hB8
    clear hL7 hFn2 hB7
    generalize (W6.alloc (.cells #[.int .i64 0] 3)).alloc (.cells #[.func (.func 37) #[] #[.pointer (some ⟨W6.heap.size, 0, none⟩), .pointer (some ⟨w.heap.size + 1, 0, none⟩), .pointer (some ⟨Vp, 0, none⟩), .pointer (some ⟨Bp, 0, none⟩), .pointer (some ⟨W6.heap.size + 1, 0, none⟩)]] 60) = W7 at hS7 hB8 hG8 ⊢
    have z0 : W7.cell? ⟨W6.heap.size + 1, 0, none⟩ = some (.func (.func 37) #[] #[.pointer (some ⟨W6.heap.size, 0, none⟩), .pointer (some ⟨w.heap.size + 1, 0, none⟩), .pointer (some ⟨Vp, 0, none⟩), .pointer (some ⟨Bp, 0, none⟩), .pointer (some ⟨W6.heap.size + 1, 0, none⟩)]) := (blk_cell hS7.hf 0).trans rfl
    clear HO6 HBp HV6 HE6 HBg6 HB6 HSZ
    generalize W6.heap.size = Lk at hS7 z0 ⊢
    have HS7 := Aside0.mk hS7
    have HB8 := Aside0.mk hB8
    have HG8 := Aside0.mk hG8
    clear hS7 hB8 hG8
    by_cases e0 : e1 = 0
    · have h3 := H3.out
      rw [if_pos e0] at h3
      by_cases hbl : b1.length = l1.length
      case neg => rw [if_neg hbl] at h3; cases h3
      rw [if_pos hbl] at h3
      injection h3 with h3
      injection h3 with q1 q2
      injection q2 with q2 q3
      have q1 : b1.map (fun b => b == 1) = r1 := q1
      have q2 : k1 = r2 := q2
      subst q1 q2 q3 e0
      obtain ⟨i0, hi, hz0, hz1, hz2⟩ := info_parts info4
      have hmk := fun (W : World) => run_make (P := Try.prog) W 25 4 i0 (.bool false) Try.underlying25 hi hz0 .i64 .i64 (l1.length : Int) (l1.length : Int) (by omega) (by omega) (by rw [hz2]; omega) (by omega)
      simp only [Int.toNat_natCast, hz1, bvals_made] at hmk
      clear hi hz0 hz1 hz2
      have HBL := Aside0.mk hbl
      clear hbl
      go_wp2_with (go_at_call 37; refine (look_any k w.heap.size Lk (w.heap.size + 1) Vp Bp (Lk + 1) b g a0_0 a0_2 A0_1 c0_1 l0_1.length l0_1 _ a2 k l1 0 _ (0, b1, k1, v1) W7 HS7.out HG8.out (by rw [List.length_replicate]; omega) HK.out).mono ?_; rintro e w8 ⟨rfl, hS8, hb8, hl8⟩; have HB9 := Aside0.mk (HB8.out.trans hb8); have HS9 := Aside0.mk hS8; have u0 : w8.cell? ⟨Bp, 0, none⟩ = some (.slice Av l1.length cv) := (blk_cell hS8.hbp 0).trans rfl; have u1 : w8.cell? ⟨Lk, 0, none⟩ = some (.int .i64 k1) := (blk_cell hS8.hl 0).trans rfl; have u2 : (w8.alloc (.cells (bvals (List.replicate l1.length false)) 4)).cell? ⟨Bp, 0, none⟩ = some (.slice Av l1.length cv) := (blk_cell (blk_alloc hS8.hbp _) 0).trans rfl; clear hS8 hb8 hl8)
      have hO := heap_alloc_new w8 (.cells (bvals (List.replicate l1.length false)) 4)
      have hS := HS9.out.below (below_alloc (Below.refl _ _) (.cells (bvals (List.replicate l1.length false)) 4))
      have hB := below_alloc HB9.out (.cells (bvals (List.replicate l1.length false)) 4)
      have hQ := Kd.R_alloc (Kd.R_bound HS9.out.hR) (.cells (bvals (List.replicate l1.length false)) 4)
      have hLt := HB9.out.size
      generalize w8.alloc (.cells (bvals (List.replicate l1.length false)) 4) = W9 at hO hS hB hQ u2 ⊢
      have HQ := Aside0.mk (Kd.R_mono hQ (fun q hq => (by have := hq.2.2.1; omega : q ≠ w8.heap.size)))
      have nB9 : Lk ≠ w8.heap.size := Nat.ne_of_lt (blk_lt HS9.out.hl)
      generalize w8.heap.size = ob at hO hLt HQ nB9 ⊢
      have HL9 := Aside0.mk hS.hl
      have HO9 := Aside0.mk hO
      have HB10 := Aside0.mk hB
      clear hO hS hB hQ u0 u1 u2 HS9 HB9 hmk
      go_loopw [45] (fun j wr => ∃ q : Nat, q ≤ l1.length ∧ j = .int .i64 q ∧ Aside0 (KeepBut W9 wr ob none) ∧ Aside0 (Below w.heap.size w wr) ∧ Aside0 (wr.heap[ob]? = some (.cells (bvals ((b1.take q).map (fun b => b == 1) ++ List.replicate (l1.length - q) false)) 4 (0, 0)))) (fun j _ => l1.length - (intOf j).toNat)
      case atStart => exact ⟨0, Nat.zero_le _, rfl, ⟨KeepBut.refl _ _ _⟩, HB10, ⟨by simpa using HO9.out⟩⟩
      case round =>
        obtain ⟨q, hq, rfl, HK9, HB11, HO10⟩ := hrel
        by_cases hqt : q < l1.length
        · have hbn : b1.length = l1.length := HBL.out
          obtain ⟨hh1, hh2, hC⟩ := Kd.R_reads' (Kd.R_keep HQ.out HK9.out (fun _ h => h))
          obtain ⟨ad, rfl, hx⟩ := Kd.at_int hC (q : Int) (by omega) (by omega)
          simp only [Int.toNat_natCast] at hx
          have hq0 : (q : Int) < (l1.length : Int) := by omega
          have o0 := bvals_cell HO10.out q (by simp; omega)
          have o1 := blk_frozen HO10.out q
          have hset : (((b1.take q).map (fun b => b == 1) ++ List.replicate (l1.length - q) false)).set q (rd b1 q == 1) = (b1.take (q + 1)).map (fun b => b == 1) ++ List.replicate (l1.length - (q + 1)) false := by
            have e : rd b1 q = b1[q]'(by omega) := by unfold rd; rw [Int.toNat_natCast, List.getD_eq_getElem?_getD, List.getElem?_eq_getElem (by omega)]; rfl
            rw [e, List.take_succ_eq_append_getElem (by omega : q < b1.length), show l1.length - q = (l1.length - (q + 1)) + 1 by omega, List.replicate_succ, List.map_append, List.set_append, if_neg (by simp; omega), List.append_assoc]
            simp [Nat.min_eq_left (by omega : q ≤ b1.length)]
          have HSET := Aside0.mk hset
          clear hset hC hh1 hh2 hbn
          go_wp2
          go_roundw
          case rel => exact ⟨q + 1, by omega, by go_num, ⟨HK9.out.set_ q _⟩, ⟨HB11.out.setCell (p := ⟨ob, q, none⟩) hLt _⟩, ⟨by have h := bvals_put HO10.out q (rd b1 q == 1); rwa [HSET.out] at h⟩⟩
          case measure => simp [intOf]; omega
        · have hqe : q = l1.length := by omega
          subst hqe
          have u3 : wr.cell? ⟨Lk, 0, none⟩ = some (.int .i64 k1) := (blk_cell (HK9.out.blk HL9.out nB9 (by simp)) 0).trans rfl
          go_wp2_with fail
          go_region
          all_goals go_wp2
          all_goals go_ret3
          all_goals refine ⟨.slice (some ⟨ob, 0, none⟩) l1.length l1.length, rfl, R_bools (l := b1.map (fun b => b == 1)) ?_ hLt (by rw [List.length_map]; exact HBL.out) hl1, pw_below_drewN HB11.out _⟩
          all_goals have h := blk_drew HO10.out
          all_goals rw [Nat.sub_self, List.replicate_zero, List.append_nil, List.take_of_length_le (Nat.le_of_eq HBL.out)] at h
          all_goals exact h
    · have h3 := H3.out
      rw [if_neg e0] at h3
      injection h3 with h3
      injection h3 with q1 q2
      injection q2 with q2 q3
      have q1 : [] = r1 := q1
      have q3 : e1 = r3 := q3
      subst q1 q2 q3
      go_wp2_with (go_at_call 37; refine (look_any k w.heap.size Lk (w.heap.size + 1) Vp Bp (Lk + 1) b g a0_0 a0_2 A0_1 c0_1 l0_1.length l0_1 _ a2 k l1 0 _ (e1, b1, k1, v1) W7 HS7.out HG8.out (by rw [List.length_replicate]; omega) HK.out).mono ?_; rintro e w8 ⟨rfl, hS8, hb8, hl8⟩; have HB9 := Aside0.mk (HB8.out.trans hb8); clear hS8 hb8 hl8)
      go_ret3
      exact ⟨_, rfl, Kd.R_nil _ _ _ _ _, HB9.out⟩

/-! ### pentaglotref28_Same: function 40 -/
def pentaglotref28_Same.l0 : Nat → List Bool → List Bool → Int → Int → Option (Bool)
  | 0, _, _, _, _ => none
  | k + 1, x0, x1, x12, x13 => if x13 < x12 then (if 0 ≤ x13 then (if x13 < (x0.length : Int) then (if x13 < (x1.length : Int) then (if ((rdOf false x0 x13) != (rdOf false x1 x13)) = true then (some false) else (pentaglotref28_Same.l0 k x0 x1 x12 (wrap64 (x13 + 1)))) else (none)) else (none)) else (none)) else (some true)
def pentaglotref28_Same.f (k : Nat) (l0 : List Bool) (l1 : List Bool) : Option (Bool) := if (l0.length : Int) = (l1.length : Int) then (pentaglotref28_Same.l0 k l0 l1 (l0.length : Int) 0) else (some false)
theorem pentaglotref28_Same.mono_l : ∀ k, (∀ y0 y1 y2 y3, LeO (pentaglotref28_Same.l0 k y0 y1 y2 y3) (pentaglotref28_Same.l0 (k + 1) y0 y1 y2 y3))
  | 0 => fun _ _ _ _ r h => by simp [pentaglotref28_Same.l0] at h
  | k + 1 => by
    have ih0 := pentaglotref28_Same.mono_l k
    · intro y0 y1 y2 y3
      unfold pentaglotref28_Same.l0
      repeat' first
      | (with_reducible exact ih0 _ _ _ _)
      | (with_reducible exact LeO.refl _)
      | (with_reducible exact LeO.none _)
      | (with_reducible refine LeO.ite ?_ ?_)
      | (with_reducible refine LeO.bind ?_ (fun _ => ?_))
      | exact ih0 _ _ _ _
      | exact LeO.none _
      | refine LeO.ite ?_ ?_
      | refine LeO.bind ?_ (fun _ => ?_)
theorem pentaglotref28_Same.mono : ∀ a0 a1 k, LeO (pentaglotref28_Same.f k a0 a1) (pentaglotref28_Same.f (k + 1) a0 a1) := by
  intro a0 a1 k
  have ih0 := pentaglotref28_Same.mono_l k
  unfold pentaglotref28_Same.f
  repeat' first
      | (with_reducible exact ih0 _ _ _ _)
      | (with_reducible exact LeO.refl _)
      | (with_reducible exact LeO.none _)
      | (with_reducible refine LeO.ite ?_ ?_)
      | (with_reducible refine LeO.bind ?_ (fun _ => ?_))
      | exact ih0 _ _ _ _
      | exact LeO.none _
      | refine LeO.ite ?_ ?_
      | refine LeO.bind ?_ (fun _ => ?_)
set_option maxHeartbeats 8000000 in
set_option maxRecDepth 100000 in
theorem pentaglotref28_Same.calls (k : Nat) (A0 : Option Addr) (c0 : Nat) (l0 : List Bool) (A1 : Option Addr) (c1 : Nat) (l1 : List Bool) (r : Bool) (w : World) (hr0 : Kd.C Kd.bool w A0 l0.length l0) (hc0 : l0.length ≤ c0) (hr1 : Kd.C Kd.bool w A1 l1.length l1) (hc1 : l1.length ≤ c1) (h : pentaglotref28_Same.f k l0 l1 = some r) :
    Calls Try.prog 40 #[.slice A0 l0.length c0, .slice A1 l1.length c1] w fun e w' => e = .returned (.bool r) ∧ Drawn0 w w' := by
  have HR0 := Aside0.mk hr0
  have HC0 := Aside0.mk hc0
  clear hr0 hc0
  have HR1 := Aside0.mk hr1
  have HC1 := Aside0.mk hc1
  clear hr1 hc1
  have H : (if (l0.length : Int) = (l1.length : Int) then (pentaglotref28_Same.l0 k l0 l1 (l0.length : Int) 0) else (some false)) = some r := h
  clear h
  by_cases c3 : (l0.length : Int) = (l1.length : Int)
  · rw [if_pos c3] at H
    have c3b0 : ((l0.length : Int) == (l1.length : Int)) = true := beq_iff_eq.mpr c3
    have c3b1 : ((l0.length : Int) != (l1.length : Int)) = false := bne_eq_false_iff_eq.mpr c3
    have c3b2 : (l0.length == l1.length) = true := by first | simpa using c3 | (simp at c3 ⊢; omega)
    clear c3
    have H' := Aside0.mk H
    clear H
    go_enter Try.func40, Try.ntmps40
    go_wp2
    repeat (go_quiet (fail); try go_wp2)
    go_loopg [13] k (fun kq v13 w' => ∃ (x13_1 : Int), v13 = .int .i64 x13_1 ∧ Aside0 (pentaglotref28_Same.l0 kq l0 l1 (l0.length : Int) x13_1 = some r) ∧ Aside0 (kq ≤ k) ∧ Drawn0 w w')
    case atStart => exact ⟨(0), (by first | rfl | (simp; done) | (simp [*]; done)), H', ⟨Nat.le_refl _⟩, by repeat (first | exact Drawn0.refl _ | apply Drawn0.step)⟩
    case round =>
      clear H'
      try clear c1
      try clear p2
      try clear c3
      try clear c3b0
      try clear c3b1
      try clear c3b2
      obtain ⟨x13_1, rfl, HA, HK1, ⟨m1, rfl⟩⟩ := hrel
      cases gk with
      | zero => exact absurd HA.out (by simp [pentaglotref28_Same.l0])
      | succ k1 =>
        have H := HA.out
        clear HA
        simp only [pentaglotref28_Same.l0] at H
        by_cases c4 : x13_1 < (l0.length : Int)
        · rw [if_pos c4] at H
          have c4b0 : decide (x13_1 < (l0.length : Int)) = true := decide_eq_true c4
          clear c4
          by_cases c5 : 0 ≤ x13_1
          · rw [if_pos c5] at H
            have c5b0 : decide (0 ≤ x13_1) = true := decide_eq_true c5
            clear c5
            by_cases c6 : x13_1 < (l0.length : Int)
            · rw [if_pos c6] at H
              have c6b0 : decide (x13_1 < (l0.length : Int)) = true := decide_eq_true c6
              clear c6
              by_cases c7 : x13_1 < (l1.length : Int)
              · rw [if_pos c7] at H
                have c7b0 : decide (x13_1 < (l1.length : Int)) = true := decide_eq_true c7
                clear c7
                by_cases c8 : ((rdOf false l0 x13_1) != (rdOf false l1 x13_1)) = true
                · rw [if_pos c8] at H
                  have c8b0 : ((rdOf false l0 x13_1) != (rdOf false l1 x13_1)) = true := c8
                  (try (have c8b1 : decide ((rdOf false l0 x13_1) = (rdOf false l1 x13_1)) = false := by simpa using c8))
                  (try (have c8b2 : ((rdOf false l0 x13_1) == (rdOf false l1 x13_1)) = false := by simpa using c8))
                  (try (have c8b3 : ¬ ((rdOf false l0 x13_1) = (rdOf false l1 x13_1)) := by simpa using c8))
                  clear c8
                  obtain rfl := Option.some.inj H
                  have p123 : 0 ≤ (x13_1 : Int) := of_decide_eq_true (by first | (with_reducible assumption) | assumption)
                  have q123 : x13_1 < (l0.length : Int) := of_decide_eq_true (by first | (with_reducible assumption) | assumption)
                  obtain ⟨ad123, e123, hx123_0⟩ := Kd.at_bool HR0.out x13_1 p123 q123
                  cases e123
                  replace p123 := eq_true p123
                  replace q123 := eq_true q123
                  have p124 : 0 ≤ (x13_1 : Int) := of_decide_eq_true (by first | (with_reducible assumption) | assumption)
                  have q124 : x13_1 < (l1.length : Int) := of_decide_eq_true (by first | (with_reducible assumption) | assumption)
                  obtain ⟨ad124, e124, hx124_0⟩ := Kd.at_bool HR1.out x13_1 p124 q124
                  cases e124
                  replace p124 := eq_true p124
                  replace q124 := eq_true q124
                  go_wp2
                  repeat (go_quiet (fail); try go_wp2)
                  go_ret
                  exact ⟨by first | rfl | (simp [pw_isEmpty]; done) | (simp; done) | (simp [*]; done), by repeat (first | exact Drawn0.refl _ | apply Drawn0.step)⟩
                · rw [if_neg c8] at H
                  have c8b0 : ((rdOf false l0 x13_1) != (rdOf false l1 x13_1)) = false := by simpa using c8
                  (try (have c8b1 : decide ((rdOf false l0 x13_1) = (rdOf false l1 x13_1)) = true := by simpa using c8))
                  (try (have c8b2 : ((rdOf false l0 x13_1) == (rdOf false l1 x13_1)) = true := by simpa using c8))
                  clear c8
                  have H' := Aside0.mk H
                  clear H
                  have p123 : 0 ≤ (x13_1 : Int) := of_decide_eq_true (by first | (with_reducible assumption) | assumption)
                  have q123 : x13_1 < (l0.length : Int) := of_decide_eq_true (by first | (with_reducible assumption) | assumption)
                  obtain ⟨ad123, e123, hx123_0⟩ := Kd.at_bool HR0.out x13_1 p123 q123
                  cases e123
                  replace p123 := eq_true p123
                  replace q123 := eq_true q123
                  have p124 : 0 ≤ (x13_1 : Int) := of_decide_eq_true (by first | (with_reducible assumption) | assumption)
                  have q124 : x13_1 < (l1.length : Int) := of_decide_eq_true (by first | (with_reducible assumption) | assumption)
                  obtain ⟨ad124, e124, hx124_0⟩ := Kd.at_bool HR1.out x13_1 p124 q124
                  cases e124
                  replace p124 := eq_true p124
                  replace q124 := eq_true q124
                  go_wp2
                  repeat (go_quiet (fail); try go_wp2)
                  go_roundg k1
                  case measure => have := HK1.out; omega
                  case rel => exact ⟨(wrap64 (x13_1 + 1)), (by first | rfl | (simp; done) | (simp [*]; done)), H', ⟨by have := HK1.out; omega⟩, by repeat (first | exact Drawn0.refl _ | apply Drawn0.step)⟩
              · rw [if_neg c7] at H
                exact absurd H (by simp)
            · rw [if_neg c6] at H
              exact absurd H (by simp)
          · rw [if_neg c5] at H
            exact absurd H (by simp)
        · rw [if_neg c4] at H
          have c4b0 : decide (x13_1 < (l0.length : Int)) = false := decide_eq_false c4
          clear c4
          obtain rfl := Option.some.inj H
          go_wp2
          repeat (go_quiet (fail); try go_wp2)
          go_ret
          exact ⟨by first | rfl | (simp [pw_isEmpty]; done) | (simp; done) | (simp [*]; done), by repeat (first | exact Drawn0.refl _ | apply Drawn0.step)⟩
  · rw [if_neg c3] at H
    have c3b0 : ((l0.length : Int) == (l1.length : Int)) = false := beq_eq_false_iff_ne.mpr c3
    have c3b1 : ((l0.length : Int) != (l1.length : Int)) = true := bne_iff_ne.mpr c3
    have c3b2 : (l0.length == l1.length) = false := by first | simpa using c3 | (simp at c3 ⊢; omega)
    obtain rfl := Option.some.inj H
    go_enter Try.func40, Try.ntmps40
    go_wp2
    repeat (go_quiet (fail); try go_wp2)
    go_ret
    exact ⟨by first | rfl | (simp [pw_isEmpty]; done) | (simp; done) | (simp [*]; done), by repeat (first | exact Drawn0.refl _ | apply Drawn0.step)⟩

end Go.Proofs.Ytflknolnclnhfaa.P
