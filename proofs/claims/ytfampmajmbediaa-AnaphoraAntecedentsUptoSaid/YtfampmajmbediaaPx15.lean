-- Written by the session's own program wip/tools/xprint.py out of the translation, with the kit's print.py on a scratch copy; functions given by hand stand among them.
import Derived.Test.YtfampmajmbediaaPx0
import Derived.Test.YtfampmajmbediaaPx1
import Derived.Test.YtfampmajmbediaaPx4
import Derived.Test.YtfampmajmbediaaPx5
import Derived.Test.YtfampmajmbediaaPx6
import Derived.Test.YtfampmajmbediaaPx9
import Derived.Test.YtfampmajmbediaaPx12
import Derived.Test.YtfampmajmbediaaPx14
namespace Go.Proofs.Ytfampmajmbediaa.P
open Go.RowKit Go.Proofs.YtfampmajmbediaaW.PrintWords Go.Proofs.YtfampmajmbediaaW.PrintLast Go.Proofs.YtfampmajmbediaaW.PrintMore
attribute [local go_sem] max2_int min2_int max_two min_two max_three min_three max_four min_four   -- for this text's walks alone
set_option linter.unusedVariables false
set_option linter.unusedSimpArgs false

/-! ### anaphora_Introduce: function 23, by hand -/
-- leans on 38 14 35 36 51 45 20 37
def cloneL (k : Nat) : List S27 → Option (List S27)
 | [] => some []
 | t :: ts => (anaphora_clone.f k t.f0 t.f1 t.f2).bind fun u => (cloneL k ts).bind fun us => some (⟨u.1, u.2.1, u.2.2⟩ :: us)
theorem cloneL_mono (k : Nat) : ∀ l, LeO (cloneL k l) (cloneL (k + 1) l)
 | [] => LeO.refl _
 | t :: ts => LeO.bind (anaphora_clone.mono _ _ _ _) (fun u => LeO.bind (cloneL_mono k ts) (fun us => LeO.refl _))
def nextP (k : Nat) (l0 : List S27) (i : Nat) : Option Int := if i < l0.length then anaphora_Pronouns.f k (rd_T27 l0 i).f0 (rd_T27 l0 i).f1 (rd_T27 l0 i).f2 else some 0
theorem nextP_mono (k : Nat) (l0 : List S27) (i : Nat) : LeO (nextP k l0 i) (nextP (k + 1) l0 i) := LeO.ite (anaphora_Pronouns.mono _ _ _ _) (LeO.refl _)
/-- One sentence of a notice: none: not covered; else the notice with its subject replaced, or nothing. -/
def introOne (k : Nat) (l0 : List S27) (j : Nat) (t : S27) : Option (Option (List S27)) :=
 (anaphora_Antecedent.f k l0 (j : Int)).bind fun np => (anaphora_subject.f k t.f0 t.f1 t.f2).bind fun ps => if np.2.2.2 = 0 then if ps.2 = true then
  (nextP k l0 (j + 1)).bind fun pn => if 0 < pn then some none else
   (abstract_At.f k t.f0 t.f1 t.f2 ps.1).bind fun x => (abstract_Same.f k x.1 x.2.1 x.2.2.1 np.1 np.2.1 np.2.2.1).bind fun s => if s = true then
    (cloneL k l0).bind fun nl => (anaphora_number.f k np.1 np.2.1 np.2.2.1).bind fun num => (abstract_Replace.f k (rd_T27 nl j).f0 (rd_T27 nl j).f1 (rd_T27 nl j).f2 ps.1 num [] []).bind fun r => some (some (nl.set j ⟨r.1, r.2.1, r.2.2.1⟩))
   else some none
 else some none else some none
theorem introOne_mono (k : Nat) (l0 : List S27) (j : Nat) (t : S27) : LeO (introOne k l0 j t) (introOne (k + 1) l0 j t) :=
 LeO.bind (anaphora_Antecedent.mono _ _ _) (fun np => LeO.bind (anaphora_subject.mono _ _ _ _) (fun ps => LeO.ite (LeO.ite (LeO.bind (nextP_mono _ _ _) (fun pn => LeO.ite (LeO.refl _) (LeO.bind (abstract_At.mono _ _ _ _ _) (fun x => LeO.bind (abstract_Same.mono _ _ _ _ _ _ _) (fun s => LeO.ite (LeO.bind (cloneL_mono _ _) (fun nl => LeO.bind (anaphora_number.mono _ _ _ _) (fun num => LeO.bind (abstract_Replace.mono _ _ _ _ _ _ _ _) (fun r => LeO.refl _)))) (LeO.refl _)))))) (LeO.refl _)) (LeO.refl _)))
def introL (k : Nat) (l0 : List S27) : List S27 → Nat → List (List S27) → Option (List (List S27))
 | [], _, acc => some acc
 | t :: ts, j, acc => (introOne k l0 j t).bind fun o => introL k l0 ts (j + 1) (acc ++ o.toList)
theorem introL_mono (k : Nat) (l0 : List S27) : ∀ ts j acc, LeO (introL k l0 ts j acc) (introL (k + 1) l0 ts j acc)
 | [], _, _ => LeO.refl _
 | t :: ts, j, acc => LeO.bind (introOne_mono _ _ _ _) (fun o => introL_mono k l0 ts _ _)
def anaphora_Introduce.f (k : Nat) (l0 : List S27) : Option (List (List S27)) := if l0.length ≤ 1000000 then introL k l0 l0 0 [] else none
theorem anaphora_Introduce.mono (l0 : List S27) (k : Nat) : LeO (anaphora_Introduce.f k l0) (anaphora_Introduce.f (k + 1) l0) := LeO.ite (introL_mono _ _ _ _ _) (LeO.refl _)
theorem rd_at {l : List S27} {j : Nat} (h : j < l.length) : rd_T27 l (j : Int) = l[j] := by
 unfold rd_T27
 rw [Int.toNat_natCast, List.getD_eq_getElem?_getD, List.getElem?_eq_getElem h]
 rfl
/-- An element of a row that came in, in every later world. -/
theorem tree_at {w : World} {ok : Nat → Prop} {A0 : Option Addr} {l0 : List S27} (h : Kd.F k27 w ok A0 l0.length l0) {j : Nat} (hj : j < l0.length) :
  ∃ ak X1 e1 X2 e2, A0 = some ak ∧ (rd_T27 l0 j).f1.length ≤ e1 ∧ (rd_T27 l0 j).f2.length ≤ e2 ∧ Kd.F (Kd.int .i64) w ok X1 (rd_T27 l0 j).f1.length (rd_T27 l0 j).f1 ∧ Kd.F k27 w ok X2 (rd_T27 l0 j).f2.length (rd_T27 l0 j).f2 ∧
   ∀ V : World, (∀ i, ok i → i < w.heap.size → V.heap[i]? = w.heap[i]?) → V.cell? (ak.add (j * 3)) = some (.string (rd_T27 l0 j).f0) ∧ V.cell? ⟨(ak.add (j * 3)).block, (ak.add (j * 3)).off + 1, none⟩ = some (.slice X1 (rd_T27 l0 j).f1.length e1) ∧ V.cell? ⟨(ak.add (j * 3)).block, (ak.add (j * 3)).off + 2, none⟩ = some (.slice X2 (rd_T27 l0 j).f2.length e2) := by
 obtain ⟨ak, cs, hA0, _, hFK, hcs, hok⟩ := Kd.F_get h z27 (j : Int) (by omega) (by omega)
 rw [show l0.getD (j : Int).toNat z27 = rd_T27 l0 j from rfl] at hFK
 rw [Int.toNat_natCast] at hcs
 obtain ⟨X1, e1, X2, e2, rfl, q1, f1, q2, f2⟩ := k27_openF hFK
 refine ⟨ak, X1, e1, X2, e2, hA0, q1, q2, f1, f2, fun V hV => ?_⟩
 have k0 : w.cell? (ak.add (j * 3)) = some (.string (rd_T27 l0 j).f0) := hcs 0 _ rfl
 have k1 : w.cell? ⟨(ak.add (j * 3)).block, (ak.add (j * 3)).off + 1, none⟩ = some (.slice X1 (rd_T27 l0 j).f1.length e1) := by rw [← add_field _ _ 1 (by omega)]; exact hcs 1 _ rfl
 have k2 : w.cell? ⟨(ak.add (j * 3)).block, (ak.add (j * 3)).off + 2, none⟩ = some (.slice X2 (rd_T27 l0 j).f2.length e2) := by rw [← add_field _ _ 2 (by omega)]; exact hcs 2 _ rfl
 have hb := hV ak.block (hok (by decide)) (by have h := World.block_lt_of_cell? _ _ k0; rwa [add_block] at h)
 have hc : ∀ a : Addr, a.block = ak.block → V.cell? a = w.cell? a := fun a ha => by simp [World.cell?, ha, hb]
 exact ⟨(hc _ (add_block _ _)).trans k0, (hc ⟨_, _, none⟩ (add_block _ _)).trans k1, (hc ⟨_, _, none⟩ (add_block _ _)).trans k2⟩
theorem info22_ : (Try.prog.info? 22).map (fun i => (i.zero, i.size, i.bytes)) = some (some (.slice none 0 0), 1, 24) := by kernel_rfl
theorem take_put {α : Type} (l : List α) (d : α) (m q : Nat) (hl : l.length = m) (hq : q < m) : (l.take q ++ List.replicate (m - q) d).set q (l[q]'(by omega)) = l.take (q + 1) ++ List.replicate (m - (q + 1)) d := by
 rw [List.take_succ_eq_append_getElem (by omega : q < l.length), show m - q = (m - (q + 1)) + 1 by omega, List.replicate_succ, List.set_append, if_neg (by simp; omega), List.append_assoc]
 simp [Nat.min_eq_left (by omega : q ≤ l.length)]
theorem cloneL_length {k : Nat} : ∀ {l nl : List S27}, cloneL k l = some nl → nl.length = l.length
 | [], nl, h => by rw [cloneL] at h; rw [← Option.some.inj h]
 | t :: ts, nl, h => by
  rw [cloneL] at h
  obtain ⟨u, hu, h⟩ := Option.bind_eq_some_iff.1 h
  obtain ⟨us, hus, h⟩ := Option.bind_eq_some_iff.1 h
  rw [← Option.some.inj h, List.length_cons, List.length_cons, cloneL_length hus]
theorem cloneL_get {k : Nat} : ∀ {l nl : List S27} {q : Nat} (hq : q < l.length) (hn : q < nl.length), cloneL k l = some nl → anaphora_clone.f k (rd_T27 l q).f0 (rd_T27 l q).f1 (rd_T27 l q).f2 = some (nl[q].f0, nl[q].f1, nl[q].f2)
 | [], nl, q, hq, _, _ => absurd hq (Nat.not_lt_zero _)
 | t :: ts, nl, q, hq, hn, h => by
  rw [rd_at hq]
  rw [cloneL] at h
  obtain ⟨u, hu, h⟩ := Option.bind_eq_some_iff.1 h
  obtain ⟨us, hus, h⟩ := Option.bind_eq_some_iff.1 h
  obtain rfl := Option.some.inj h
  cases q with
  | zero => exact hu
  | succ q =>
   have hq' : q < ts.length := by simpa using hq
   have h := cloneL_get hq' (by simpa using hn) hus
   rw [rd_at hq'] at h
   simpa using h
/-- An element of an own row, stored whole. -/
theorem N_put3 {W : World} {base g n cap : Nat} {ok okp : Nat → Prop} {xs : List S27} (h : Kd.N k27 27 W base ok (.slice (some ⟨g, 0, none⟩) n cap) xs) (i : Nat) (hi : i < n) (x : S27) {A1 : Option Addr} {c1 : Nat} {A2 : Option Addr} {c2 : Nat} (l1 : x.f1.length ≤ c1) (F1 : Kd.F (Kd.int .i64) W okp A1 x.f1.length x.f1) (l2 : x.f2.length ≤ c2) (F2 : Kd.F k27 W okp A2 x.f2.length x.f2) (hok : ∀ k, okp k → ok k ∧ k ≠ g) :
  Kd.N k27 27 (((W.setCell ⟨g, i * 3, none⟩ (.string x.f0)).setCell ⟨g, i * 3 + 1, none⟩ (.slice A1 x.f1.length c1)).setCell ⟨g, i * 3 + 2, none⟩ (.slice A2 x.f2.length c2)) base ok (.slice (some ⟨g, 0, none⟩) n cap) (xs.set i x) ∧
   W.grownBy (((W.setCell ⟨g, i * 3, none⟩ (.string x.f0)).setCell ⟨g, i * 3 + 1, none⟩ (.slice A1 x.f1.length c1)).setCell ⟨g, i * 3 + 2, none⟩ (.slice A2 x.f2.length c2)) (some g) := by
 obtain ⟨c, hcl, _, hcc, _⟩ := Kd.N_elem h z27 (i : Int) (by omega) (by omega)
 have h3 := Kd.N_seg h (i : Int) (by omega) (by omega) (seg := [.string x.f0, .slice A1 x.f1.length c1, .slice A2 x.f2.length c2]) (j := 0) (x' := x) hcl hcc (Nat.le_refl 3) (by
  have : c.drop 3 = [] := List.drop_eq_nil_of_le (by rw [hcl]; exact Nat.le_refl 3)
  simp only [List.take_zero, List.nil_append, List.length_cons, List.length_nil, Nat.reduceAdd, this, List.append_nil]
  exact k27_mkF W okp x l1 F1 l2 F2) hok
 rw [Int.toNat_natCast] at h3
 exact h3
theorem N_cells {W : World} {base g n cap : Nat} {ok : Nat → Prop} {xs : List S27} (h : Kd.N k27 27 W base ok (.slice (some ⟨g, 0, none⟩) n cap) xs) (i : Nat) (hi : i < n) :
  ∃ A1 c1 A2 c2, (rd_T27 xs i).f1.length ≤ c1 ∧ (rd_T27 xs i).f2.length ≤ c2 ∧ Kd.F (Kd.int .i64) W (fun k => ok k ∧ k ≠ g) A1 (rd_T27 xs i).f1.length (rd_T27 xs i).f1 ∧ Kd.F k27 W (fun k => ok k ∧ k ≠ g) A2 (rd_T27 xs i).f2.length (rd_T27 xs i).f2 ∧
   W.cell? ⟨g, i * 3, none⟩ = some (.string (rd_T27 xs i).f0) ∧ W.cell? ⟨g, i * 3 + 1, none⟩ = some (.slice A1 (rd_T27 xs i).f1.length c1) ∧ W.cell? ⟨g, i * 3 + 2, none⟩ = some (.slice A2 (rd_T27 xs i).f2.length c2) ∧ ∀ j, j < 3 → W.frozen? ⟨g, i * 3 + j, none⟩ = false := by
 obtain ⟨c, hcl, hK, hcc, hfr⟩ := Kd.N_elem h z27 (i : Int) (by omega) (by omega)
 rw [show xs.getD (i : Int).toNat z27 = rd_T27 xs i from rfl] at hK
 simp only [Int.toNat_natCast] at hcc hfr
 obtain ⟨A1, c1, A2, c2, rfl, l1, F1, l2, F2⟩ := k27_openF hK
 exact ⟨A1, c1, A2, c2, l1, l2, F1, F2, hcc 0 _ rfl, hcc 1 _ rfl, hcc 2 _ rfl, fun j _ => hfr j⟩
set_option maxHeartbeats 16000000 in
set_option maxRecDepth 100000 in
theorem anaphora_Introduce.calls (k : Nat) (A0 : Option Addr) (c0 : Nat) (l0 : List S27) (r : List (List S27)) (w : World) (hr0 : Kd.C k27 w A0 l0.length l0) (hc0 : l0.length ≤ c0) (h : anaphora_Introduce.f k l0 = some r) :
  Calls Try.prog 23 #[.slice A0 l0.length c0] w fun e w' => ∃ v0_ : Value, e = .returned v0_ ∧ Kd.N (Kd.slice 27 k27) 22 w' w.heap.size (fun k_ => w.heap.size ≤ k_) v0_ r ∧ Below w.heap.size w w' := by
 unfold anaphora_Introduce.f at h
 by_cases hl : l0.length ≤ 1000000
 case neg => rw [if_neg hl] at h; cases h
 rw [if_pos hl] at h
 have hu27 := Try.underlying27
 have HF0 := Aside0.mk (Kd.C_F k27_heap hr0)
 have HC0 := Aside0.mk hc0
 have HH := Aside0.mk h
 have HL := Aside0.mk hl
 clear hr0 hc0 h hl
 go_enter Try.func23, Try.ntmps23
 go_wp2
 go_loopw [3, 16] (fun v3 v16 wr => ∃ (j : Nat) (acc : List (List S27)), v16 = .int .i64 (j : Int) ∧ Aside0 (j ≤ l0.length ∧ acc.length ≤ j) ∧ Aside0 (introL k l0 (l0.drop j) j acc = some r) ∧ Aside0 (Kd.N (Kd.slice 27 k27) 22 wr w.heap.size (fun k_ => w.heap.size ≤ k_) v3 acc) ∧ Aside0 (Below w.heap.size w wr)) (fun _ v16 _ => l0.length - (intOf v16).toNat)
 case atStart => exact ⟨0, [], rfl, ⟨Nat.zero_le _, Nat.le_refl _⟩, HH, ⟨Kd.N_nil _ _ _ _ _⟩, ⟨Below.refl _ _⟩⟩
 case round =>
  clear HH
  obtain ⟨j, acc, rfl, HJ, HI, HN, HB⟩ := hrel
  by_cases hj : j < l0.length
  case neg =>
   have hi := HI.out
   rw [List.drop_of_length_le (by omega), introL] at hi
   obtain rfl := Option.some.inj hi
   clear hi
   go_wp2
   go_ret
   exact ⟨_, rfl, HN.out, HB.out⟩
  case pos =>
   have hi := HI.out
   rw [List.drop_eq_getElem_cons hj, ← rd_at hj, introL] at hi
   obtain ⟨o, ho, hi⟩ := Option.bind_eq_some_iff.1 hi
   unfold introOne at ho
   obtain ⟨np, hnp, ho⟩ := Option.bind_eq_some_iff.1 ho
   obtain ⟨ps, hps, ho⟩ := Option.bind_eq_some_iff.1 ho
   obtain ⟨ak, X1, e1, X2, e2, rfl, q1, q2, F1, F2, hcell⟩ := tree_at HF0.out hj
   have hcl := fun (V : World) (hb : Below w.heap.size w V) => hcell V (fun i hi hlt => hb.block i hlt)
   have hb14 := anaphora_Antecedent.calls k (some ak) c0 l0 (j : Int) np.1 np.2.1 np.2.2.1 np.2.2.2 wr (Kd.F_now (Kd.F_below HF0.out HB.out)) HC0.out hnp
   have hb35 := fun (V : World) (hb : Below w.heap.size w V) => anaphora_subject.calls k (rd_T27 l0 j).f0 (fun _ => True) X1 e1 (rd_T27 l0 j).f1 (fun _ => True) X2 e2 (rd_T27 l0 j).f2 ps.1 ps.2 V ⟨X1, e1, rfl, q1, Kd.F_mono (Kd.F_below F1 hb) (fun _ _ => trivial)⟩ ⟨X2, e2, rfl, q2, Kd.F_mono (Kd.F_below F2 hb) (fun _ _ => trivial)⟩ hps
   have hj0 : (0 : Int) ≤ (j : Int) := Int.natCast_nonneg _
   have hj1 : (j : Int) < (l0.length : Int) := by omega
   have hlb : l0.length ≤ 1000000 := HL.out
   have HCL := Aside0.mk hcl
   have HO := Aside0.mk ho
   have HII := Aside0.mk hi
   have HF1 := Aside0.mk F1
   have HF2 := Aside0.mk F2
   have Q1 := Aside0.mk q1
   have Q2 := Aside0.mk q2
   clear hnp hps hcell hcl ho hi F1 F2 q1 q2 HI
   go_upto_block 1 with (fail)
   go_cut [3] (fun v3 wx => Aside0 (Kd.N (Kd.slice 27 k27) 22 wx w.heap.size (fun k_ => w.heap.size ≤ k_) v3 (acc ++ o.toList)) ∧ Aside0 (Below w.heap.size w wx))
   case rest =>
    obtain ⟨HN2, HB2⟩ := hcut
    go_wp2
    go_roundw
    case rel => exact ⟨j + 1, _, by go_num, ⟨hj, by have := HJ.out.2; cases o <;> simp <;> omega⟩, HII, HN2, HB2⟩
    case measure => simp [intOf]; omega
   case first =>
    go_upto_region 6 with (go_at_call 14; refine hb14.mono ?_; rintro e w1 ⟨y1, y2, rfl, hy1, hy2, hb1⟩; obtain ⟨N1, m1, rfl⟩ := Kd.R_slice hy1; obtain ⟨N2, m2, rfl⟩ := Kd.R_slice hy2; have HN1 := Aside0.mk hy1; have HN2 := Aside0.mk hy2; have HB1 := Aside0.mk hb1; clear hb1 hy1 hy2 hb14)
    have hbn := below_alloc (Below.refl w1.heap.size w1) (.cells #[.string np.1, .slice N1 np.2.1.length m1, .slice N2 np.2.2.1.length m2] 27)
    have BN := Aside0.mk (heap_alloc_new w1 (.cells #[.string np.1, .slice N1 np.2.1.length m1, .slice N2 np.2.2.1.length m2] 27))
    have NR1 := Aside0.mk (Kd.R_below HN1.out hbn)
    have NR2 := Aside0.mk (Kd.R_below HN2.out hbn)
    have HBN := Aside0.mk ((HB.out.trans (HB1.out.mono HB.out.size)).trans (hbn.mono (HB.out.trans (HB1.out.mono HB.out.size)).size))
    have HNN := Aside0.mk (Kd.N_below (Kd.N_below HN.out HB1.out) hbn)
    have hlt1 : w1.heap.size < (w1.alloc (.cells #[.string np.1, .slice N1 np.2.1.length m1, .slice N2 np.2.2.1.length m2] 27)).heap.size := by simp
    generalize w1.alloc (.cells #[.string np.1, .slice N1 np.2.1.length m1, .slice N2 np.2.2.1.length m2] 27) = w2 at BN NR1 NR2 HBN HNN hbn hlt1 ⊢
    obtain ⟨y0, y1, y2⟩ := HCL.out w2 HBN.out
    have hc35 := hb35 w2 HBN.out
    clear hbn HN1 HN2 HN
    go_upto_region 7 with (go_at_call 35; refine hc35.mono ?_; rintro e w3 ⟨pv, rfl, hpv, hb3⟩; obtain ⟨P1, p1, rfl⟩ := Kd.R_slice hpv; have HPV := Aside0.mk hpv; have HB3 := Aside0.mk hb3; clear hpv hb3 hc35 hb35 y0 y1 y2)
    have HN3 := Aside0.mk (Kd.N_below HNN.out HB3.out)
    have HBW := Aside0.mk (HBN.out.trans (HB3.out.mono HBN.out.size))
    have ho := HO.out
    by_cases he : np.2.2.2 = 0
    case neg =>
     rw [if_neg he] at ho
     obtain rfl := Option.some.inj ho
     have heb : (np.2.2.2 == 0) = false := by simp [he]
     clear ho
     go_wp2
     go_meet
     exact ⟨by simpa using HN3, HBW⟩
    case pos =>
     rw [if_pos he] at ho
     by_cases hok : ps.2 = true
     case neg =>
      rw [if_neg hok] at ho
      obtain rfl := Option.some.inj ho
      have hob : ps.2 = false := by simpa using hok
      clear ho
      rw [he, hob]
      go_wp2
      go_meet
      exact ⟨by simpa using HN3, HBW⟩
     case pos =>
      rw [if_pos hok] at ho
      obtain ⟨pn, hpn, ho⟩ := Option.bind_eq_some_iff.1 ho
      rw [he, hok]
      have HO2 := Aside0.mk ho
      clear ho HO he hok
      have hwj : wrap64 ((j : Int) + 1) = (j : Int) + 1 := by unfold wrap64; omega
      have HWJ := Aside0.mk hwj
      clear hwj
      unfold nextP at hpn
      go_cut [54] from 33 to 54 (fun v54 wx => v54 = .bool (decide (0 < pn)) ∧ Aside0 (Below w3.heap.size w3 wx))
      case first =>
       by_cases hn : j + 1 < l0.length
       case neg =>
        rw [if_neg hn] at hpn
        obtain rfl := Option.some.inj hpn
        have hni : ¬ ((j : Int) + 1 < (l0.length : Int)) := by omega
        clear hpn
        go_wp2
        go_meet
        exact ⟨rfl, ⟨Below.refl _ _⟩⟩
       case pos =>
        rw [if_pos hn] at hpn
        have hni : ((j : Int) + 1 < (l0.length : Int)) := by omega
        have hnp : (0 : Int) ≤ (j : Int) + 1 := by omega
        obtain ⟨ak', X1', e1', X2', e2', hak, q1', q2', F1', F2', hcell'⟩ := tree_at HF0.out hn
        obtain rfl : ak = ak' := Option.some.inj hak
        obtain ⟨y0, y1, y2⟩ := hcell' w3 (fun i hi hlt => HBW.out.block i hlt)
        have a20 := anaphora_Pronouns.calls k _ X1' e1' _ X2' e2' _ pn w3 (Kd.F_now (Kd.F_below F1' HBW.out)) q1' (Kd.F_now (Kd.F_below F2' HBW.out)) q2' hpn
        have HA20 := Aside0.mk a20
        clear hpn q1' q2' F1' F2' hcell' a20 hak
        by_cases hpp : 0 < pn
        ·go_wp2_with (go_at_call 20; refine HA20.out.mono ?_; rintro e w4 ⟨rfl, hb4⟩; have HB4 := Aside0.mk hb4; clear hb4 HA20)
         go_meet
         exact ⟨by simp [hpp], HB4⟩
        ·have hpq : decide (0 < pn) = false := by simp [hpp]
         go_wp2_with (go_at_call 20; refine HA20.out.mono ?_; rintro e w4 ⟨rfl, hb4⟩; have HB4 := Aside0.mk hb4; clear hb4 HA20)
         go_meet
         exact ⟨by simp [hpp], HB4⟩
      case rest =>
       obtain ⟨rfl, HB4⟩ := hcut
       have HN4 := Aside0.mk (Kd.N_below HN3.out HB4.out)
       have HBW4 := Aside0.mk (HBW.out.trans (HB4.out.mono HBW.out.size))
       have ho := HO2.out
       by_cases hpp : 0 < pn
       case pos =>
        rw [if_pos hpp] at ho
        obtain rfl := Option.some.inj ho
        have hpq : decide (0 < pn) = true := by simp [hpp]
        rw [hpq]
        clear ho
        go_wp2
        go_meet
        exact ⟨by simpa using HN4, HBW4⟩
       case neg =>
        rw [if_neg hpp] at ho
        have hpq : decide (0 < pn) = false := by simp [hpp]
        rw [hpq]
        obtain ⟨x, hx, ho⟩ := Option.bind_eq_some_iff.1 ho
        obtain ⟨s, hs, ho⟩ := Option.bind_eq_some_iff.1 ho
        have HO3 := Aside0.mk ho
        have HPV4 := Aside0.mk (Kd.R_below HPV.out HB4.out)
        have BN4 := Aside0.mk (blk_below (blk_below BN.out HB3.out) HB4.out)
        have NR14 := Aside0.mk (Kd.R_below (Kd.R_below NR1.out HB3.out) HB4.out)
        have NR24 := Aside0.mk (Kd.R_below (Kd.R_below NR2.out HB3.out) HB4.out)
        obtain ⟨y0, y1, y2⟩ := HCL.out wc HBW4.out
        have a36 := abstract_At.calls k (rd_T27 l0 j).f0 (fun _ => True) X1 e1 (rd_T27 l0 j).f1 (fun _ => True) X2 e2 (rd_T27 l0 j).f2 P1 p1 ps.1 x.1 x.2.1 x.2.2.1 x.2.2.2 wc ⟨X1, e1, rfl, Q1.out, Kd.F_mono (Kd.F_below HF1.out HBW4.out) (fun _ _ => trivial)⟩ ⟨X2, e2, rfl, Q2.out, Kd.F_mono (Kd.F_below HF2.out HBW4.out) (fun _ _ => trivial)⟩ (Kd.R_reads' HPV4.out).2.2 (Kd.R_reads' HPV4.out).2.1 hx
        have A36 := Aside0.mk a36
        have HS := Aside0.mk hs
        clear ho hpp hx hs a36 HO2 hpq HPV BN NR1 NR2 HN3 HNN
        go_upto_region 9 with (go_at_call 36; refine A36.out.mono ?_; rintro e w5 ⟨x1, x2, rfl, hx1, hx2, hb5⟩; obtain ⟨G1, t1, rfl⟩ := Kd.R_slice hx1; obtain ⟨G2, t2, rfl⟩ := Kd.R_slice hx2; have HG1 := Aside0.mk hx1; have HG2 := Aside0.mk hx2; have HB5 := Aside0.mk hb5; clear hx1 hx2 hb5 A36 y0 y1 y2)
        have hbx := below_alloc (Below.refl w5.heap.size w5) (.cells #[.string x.1, .slice G1 x.2.1.length t1, .slice G2 x.2.2.1.length t2] 27)
        have BX := Aside0.mk (heap_alloc_new w5 (.cells #[.string x.1, .slice G1 x.2.1.length t1, .slice G2 x.2.2.1.length t2] 27))
        have hg1 := Kd.R_below HG1.out hbx
        have hg2 := Kd.R_below HG2.out hbx
        have HB56 := Aside0.mk (HB5.out.trans (hbx.mono HB5.out.size))
        generalize w5.alloc (.cells #[.string x.1, .slice G1 x.2.1.length t1, .slice G2 x.2.2.1.length t2] 27) = w6 at BX hg1 hg2 HB56 hbx ⊢
        have BN6 := Aside0.mk (blk_below BN4.out HB56.out)
        have HPV6 := Aside0.mk (Kd.R_below HPV4.out HB56.out)
        have HN6 := Aside0.mk (Kd.N_below HN4.out HB56.out)
        have HBW6 := Aside0.mk (HBW4.out.trans (HB56.out.mono HBW4.out.size))
        have nr1 := Kd.R_below NR14.out HB56.out
        have nr2 := Kd.R_below NR24.out HB56.out
        have a51 := abstract_Same.calls k x.1 G1 t1 x.2.1 G2 t2 x.2.2.1 np.1 N1 m1 np.2.1 N2 m2 np.2.2.1 s w6 (Kd.R_reads' hg1).2.2 (Kd.R_reads' hg1).2.1 (Kd.R_reads' hg2).2.2 (Kd.R_reads' hg2).2.1 (Kd.R_reads' nr1).2.2 (Kd.R_reads' nr1).2.1 (Kd.R_reads' nr2).2.2 (Kd.R_reads' nr2).2.1 HS.out
        have z0 : w6.cell? ⟨w5.heap.size, 0, none⟩ = some (.string x.1) := (blk_cell BX.out 0).trans rfl
        have z1 : w6.cell? ⟨w5.heap.size, 1, none⟩ = some (.slice G1 x.2.1.length t1) := (blk_cell BX.out 1).trans rfl
        have z2 : w6.cell? ⟨w5.heap.size, 2, none⟩ = some (.slice G2 x.2.2.1.length t2) := (blk_cell BX.out 2).trans rfl
        have z3 : w6.cell? ⟨w1.heap.size, 0, none⟩ = some (.string np.1) := (blk_cell BN6.out 0).trans rfl
        have z4 : w6.cell? ⟨w1.heap.size, 1, none⟩ = some (.slice N1 np.2.1.length m1) := (blk_cell BN6.out 1).trans rfl
        have z5 : w6.cell? ⟨w1.heap.size, 2, none⟩ = some (.slice N2 np.2.2.1.length m2) := (blk_cell BN6.out 2).trans rfl
        have A51 := Aside0.mk a51
        have NR16 := Aside0.mk nr1
        have NR26 := Aside0.mk nr2
        clear a51 nr1 nr2 hg1 hg2 hbx HN4 HPV4 BN4 NR14 NR24
        have ho := HO3.out
        cases s with
        | false =>
         rw [if_neg (by decide)] at ho
         obtain rfl := Option.some.inj ho
         clear ho
         go_wp2_with (go_at_call 51; refine A51.out.mono ?_; rintro e w7 ⟨rfl, hb7⟩; have HB7 := Aside0.mk hb7; clear hb7 A51 z0 z1 z2 z3 z4 z5)
         go_meet
         exact ⟨⟨by simpa using Kd.N_below HN6.out HB7.out⟩, ⟨HBW6.out.trans (HB7.out.mono HBW6.out.size)⟩⟩
        | true =>
         rw [if_pos rfl] at ho
         obtain ⟨nl, hnl, ho⟩ := Option.bind_eq_some_iff.1 ho
         obtain ⟨num, hnum, ho⟩ := Option.bind_eq_some_iff.1 ho
         obtain ⟨rr, hrr, ho⟩ := Option.bind_eq_some_iff.1 ho
         obtain rfl := Option.some.inj ho
         have HNL := Aside0.mk hnl
         have HNUM := Aside0.mk hnum
         have HRR := Aside0.mk hrr
         have HLN := Aside0.mk (cloneL_length hnl)
         clear ho hnl hnum hrr HO3
         go_upto_region 10 with (go_at_call 51; refine A51.out.mono ?_; rintro e w7 ⟨rfl, hb7⟩; have HB7 := Aside0.mk hb7; clear hb7 A51 z0 z1 z2 z3 z4 z5)
         have HBW7 := Aside0.mk (HBW6.out.trans (HB7.out.mono HBW6.out.size))
         have HN7 := Aside0.mk (Kd.N_below HN6.out HB7.out)
         have HPV7 := Aside0.mk (Kd.R_below HPV6.out HB7.out)
         have BN7 := Aside0.mk (blk_below BN6.out HB7.out)
         have NR17 := Aside0.mk (Kd.R_below NR16.out HB7.out)
         have NR27 := Aside0.mk (Kd.R_below NR26.out HB7.out)
         have HLT := Aside0.mk (blk_lt BN7.out)
         clear HN6 HPV6 BN6 NR16 NR26
         go_upto_region 11 with ((with_reducible refine gate_dst (N := 70) rfl ?_); refine Kd.N_make k27 (w0 := w7) w7.heap.size 27 rfl (N' := 70) rfl 22 (.tmp 69) (.tmp 69) rfl (l0.length : Int) rfl rfl Try.underlying22 (.agg #[(.string ⟨#[]⟩), (.slice none 0 0), (.slice none 0 0)]) 64 info27 rfl (by decide) (by omega) z27 (ok := fun q => w7.heap.size ≤ q) (okp := fun _ => False) (k27_mkF _ _ z27 (Nat.le_refl _) (Kd.F_nil _ _ _) (Nat.le_refl _) (Kd.F_nil _ _ _)) (fun _ h => h.elim) (Nat.le_refl _) (by omega) (by simp only [Int.toNat_natCast]; omega) (Below.refl _ _) (Nat.le_refl _) ?_; intro v8 w8 hn8 hb8 hg8 hat8; rw [Int.toNat_natCast] at hn8; obtain ⟨g, cap, rfl, hgl, _, _⟩ := Kd.N_form hn8 (by rw [List.length_replicate]; omega); rw [List.length_replicate] at hn8; have HN8 := Aside0.mk hn8; have HB8 := Aside0.mk hb8; have HGL := Aside0.mk hgl; clear hn8 hb8 hg8 hat8 hgl)
         go_wp2
         go_loopw [73] (fun v73 wz => ∃ q : Nat, v73 = .int .i64 (q : Int) ∧ Aside0 (q ≤ l0.length) ∧ Aside0 (Kd.N k27 27 wz w7.heap.size (fun q => w7.heap.size ≤ q) (.slice (some ⟨g, 0, none⟩) l0.length cap) (nl.take q ++ List.replicate (l0.length - q) z27)) ∧ Aside0 (Below w7.heap.size w7 wz)) (fun v73 _ => l0.length - (intOf v73).toNat)
         case atStart => exact ⟨0, rfl, ⟨Nat.zero_le _⟩, ⟨by simpa using HN8.out⟩, HB8⟩
         case round =>
          clear HN8 HB8
          obtain ⟨q, rfl, HQ, HNQ, HBQ⟩ := hrel
          by_cases hq : q < l0.length
          case pos =>
           obtain ⟨ak', Y1, d1, Y2, d2, hak, k1, k2, K1, K2, kcell⟩ := tree_at HF0.out hq
           obtain rfl : ak = ak' := Option.some.inj hak
           have hBw := HBW7.out.trans (HBQ.out.mono HBW7.out.size)
           obtain ⟨y0, y1, y2⟩ := kcell wr (fun i hi hlt => hBw.block i hlt)
           have hq0 : (0 : Int) ≤ (q : Int) := Int.natCast_nonneg _
           have hq1 : (q : Int) < (l0.length : Int) := by omega
           have hnq : q < nl.length := by have := HLN.out; omega
           have a38 := fun (V : World) (hb : Below wr.heap.size wr V) => anaphora_clone.calls k _ Y1 d1 _ Y2 d2 _ _ _ _ V (Kd.F_now (Kd.F_below (Kd.F_below K1 hBw) hb)) k1 (Kd.F_now (Kd.F_below (Kd.F_below K2 hBw) hb)) k2 (cloneL_get hq hnq HNL.out)
           have HA38 := Aside0.mk a38
           have HBWQ := Aside0.mk hBw
           have HQQ := Aside0.mk hq
           clear a38 kcell K1 K2 k1 k2 hak hBw
           go_upto_region 14 with (fail)
           have hbt := below_alloc (Below.refl wr.heap.size wr) (.cells #[.string (rd_T27 l0 q).f0, .slice Y1 (rd_T27 l0 q).f1.length d1, .slice Y2 (rd_T27 l0 q).f2.length d2] 27)
           have BT := Aside0.mk (heap_alloc_new wr (.cells #[.string (rd_T27 l0 q).f0, .slice Y1 (rd_T27 l0 q).f1.length d1, .slice Y2 (rd_T27 l0 q).f2.length d2] 27))
           have HNQ2 := Aside0.mk (Kd.N_below HNQ.out hbt)
           have HBQ2 := Aside0.mk (HBQ.out.trans (hbt.mono HBQ.out.size))
           have HBT := Aside0.mk hbt
           have z0' := y0
           generalize wr.alloc (.cells #[.string (rd_T27 l0 q).f0, .slice Y1 (rd_T27 l0 q).f1.length d1, .slice Y2 (rd_T27 l0 q).f2.length d2] 27) = w9 at BT HNQ2 HBQ2 HBT hbt ⊢
           have z0 : w9.cell? ⟨wr.heap.size, 0, none⟩ = some (.string (rd_T27 l0 q).f0) := (blk_cell BT.out 0).trans rfl
           have z1 : w9.cell? ⟨wr.heap.size, 1, none⟩ = some (.slice Y1 (rd_T27 l0 q).f1.length d1) := (blk_cell BT.out 1).trans rfl
           have z2 : w9.cell? ⟨wr.heap.size, 2, none⟩ = some (.slice Y2 (rd_T27 l0 q).f2.length d2) := (blk_cell BT.out 2).trans rfl
           clear hbt y0 y1 y2 z0' HNQ HBQ
           go_wp2_with (go_at_call 38; refine (HA38.out _ HBT.out).mono ?_; rintro e w10 ⟨v1, v2, rfl, hv1, hv2, hb10⟩; obtain ⟨U1, t1', rfl⟩ := Kd.R_slice hv1; obtain ⟨U2, t2', rfl⟩ := Kd.R_slice hv2; have HV1 := Aside0.mk hv1; have HV2 := Aside0.mk hv2; have HB10 := Aside0.mk hb10; have hn10 := Kd.N_below HNQ2.out hb10; obtain ⟨_, _, _, _, _, _, _, _, c0_, c1_, c2_, fz⟩ := N_cells hn10 q HQQ.out; have fz0 : w10.frozen? ⟨g, q * 3, none⟩ = false := fz 0 (by omega); have fz1 := fz 1 (by omega); have fz2 := fz 2 (by omega); have HN10 := Aside0.mk hn10; clear hv1 hv2 hb10 hn10 fz HA38 z0 z1 z2)
           have hgl := Kd.N_lt HNQ2.out g (by simp [Value.ownBlock])
           refine ⟨⟨q + 1, by go_num, ⟨HQQ.out⟩, ⟨?_⟩, ⟨?_⟩⟩, by simp [intOf]; have := HQQ.out; omega⟩
           ·have h := (N_put3 (okp := fun i => w9.heap.size ≤ i) HN10.out q HQQ.out nl[q] (Kd.R_reads' HV1.out).2.1 (Kd.F_mono (Kd.R_F (Kd.R_bound HV1.out)) (fun i hi => hi.2.1)) (Kd.R_reads' HV2.out).2.1 (Kd.F_mono (Kd.R_F (Kd.R_bound HV2.out)) (fun i hi => hi.2.1)) (fun i hi => ⟨by have := HBQ2.out.size; omega, by omega⟩)).1
            rwa [take_put nl z27 l0.length q HLN.out HQQ.out] at h
           ·have hg := HGL.out
            exact below_set (below_set (below_set (HBQ2.out.trans (HB10.out.mono HBQ2.out.size)) hg) hg) hg
          case neg =>
           have hql := HQ.out
           obtain rfl : q = l0.length := by omega
           have hnq := HNQ.out
           rw [Nat.sub_self, List.replicate_zero, List.append_nil, List.take_of_length_le (by rw [HLN.out]; exact Nat.le_refl _)] at hnq
           have HNQ := Aside0.mk hnq
           obtain ⟨M1, c1, M2, c2, lm1, lm2, fm1, fm2, s0, s1, s2, _⟩ := N_cells hnq j hj
           have bn := blk_below BN7.out HBQ.out
           have hkc : ∀ V, Below wr.heap.size wr V → V.cell? ⟨g, j * 3, none⟩ = some (.string (rd_T27 nl j).f0) ∧ V.cell? ⟨g, j * 3 + 1, none⟩ = some (.slice M1 (rd_T27 nl j).f1.length c1) ∧ V.cell? ⟨g, j * 3 + 2, none⟩ = some (.slice M2 (rd_T27 nl j).f2.length c2) ∧ V.cell? ⟨w1.heap.size, 0, none⟩ = some (.string np.1) ∧ V.cell? ⟨w1.heap.size, 1, none⟩ = some (.slice N1 np.2.1.length m1) ∧ V.cell? ⟨w1.heap.size, 2, none⟩ = some (.slice N2 np.2.2.1.length m2) := fun V hb =>
            ⟨(hb.cell (World.block_lt_of_cell? _ _ s0)).trans s0, (hb.cell (World.block_lt_of_cell? _ _ s1)).trans s1, (hb.cell (World.block_lt_of_cell? _ _ s2)).trans s2, (blk_cell (blk_below bn hb) 0).trans rfl, (blk_cell (blk_below bn hb) 1).trans rfl, (blk_cell (blk_below bn hb) 2).trans rfl⟩
           have nr1 := Kd.R_below NR17.out HBQ.out
           have nr2 := Kd.R_below NR27.out HBQ.out
           have pv := Kd.R_below HPV7.out HBQ.out
           have a37 := fun (V : World) (hb : Below wr.heap.size wr V) => (anaphora_number.calls k np.1 N1 m1 np.2.1 N2 m2 np.2.2.1 num V (Kd.R_reads' (Kd.R_below nr1 hb)).2.2 (Kd.R_reads' nr1).2.1 (Kd.R_reads' (Kd.R_below nr2 hb)).2.2 (Kd.R_reads' nr2).2.1 HNUM.out)
           have a45 := fun (V : World) (hb : Below wr.heap.size wr V) => abstract_Replace.calls k (rd_T27 nl j).f0 M1 c1 (rd_T27 nl j).f1 M2 c2 (rd_T27 nl j).f2 P1 p1 ps.1 num none 0 [] none 0 [] rr.1 rr.2.1 rr.2.2.1 rr.2.2.2 V (Kd.F_now (Kd.F_below fm1 hb)) lm1 (Kd.F_now (Kd.F_below fm2 hb)) lm2 (Kd.R_reads' (Kd.R_below pv hb)).2.2 (Kd.R_reads' pv).2.1 (Kd.C_nil _ _) (Nat.le_refl _) (Kd.C_nil _ _) (Nat.le_refl _) HRR.out
           have HA37 := Aside0.mk a37
           have HA45 := Aside0.mk a45
           have HDR := Aside0.mk (below_drew (Below.refl wr.heap.size wr))
           have hgl := Kd.N_lt hnq g (by simp [Value.ownBlock])
           obtain ⟨Av, cv, rfl⟩ := Kd.N_slice HN7.out
           clear nr1 nr2 pv a37 a45 fm1 fm2 s0 s1 s2 bn hnq lm1 lm2
           go_upto_region 16 with (fail)
           refine start_ (n := 16) (S := fun w' => w'.cell? ⟨g, j * 3, none⟩ = some (.string (rd_T27 nl j).f0) ∧ w'.cell? ⟨g, j * 3 + 1, none⟩ = some (.slice M1 (rd_T27 nl j).f1.length c1) ∧ w'.cell? ⟨g, j * 3 + 2, none⟩ = some (.slice M2 (rd_T27 nl j).f2.length c2) ∧ w'.cell? ⟨w1.heap.size, 0, none⟩ = some (.string np.1) ∧ w'.cell? ⟨w1.heap.size, 1, none⟩ = some (.slice N1 np.2.1.length m1) ∧ w'.cell? ⟨w1.heap.size, 2, none⟩ = some (.slice N2 np.2.2.1.length m2)) (ds := [15]) #[false, false, false, false, false, false, false, false, false, false, false, false, false, false, false, false] (by kernel_rfl) rfl rfl ⟨(hkc _ HDR.out).1, (hkc _ HDR.out).2.1, (hkc _ HDR.out).2.2.1, (hkc _ HDR.out).2.2.2.1, (hkc _ HDR.out).2.2.2.2.1, (hkc _ HDR.out).2.2.2.2.2⟩ (fun hHeld => ?_)
           generalize wr.drew = wd at HDR hHeld ⊢
           refine pu_ 0 (some 85) ?_
           refine pu_ 1 (some 86) ?_
           refine pu_ 2 (some 87) ?_
           refine pu_ 3 (some 88) ?_
           refine pu_ 4 (some 89) ?_
           refine tk_ 5 (some 90) hHeld ?_
           refine pu_ 6 (some 91) ?_
           refine tk_ 7 (some 92) hHeld ?_
           refine on_ 8 (some 93) (fun K hK => ?_)
           refine go_ Try.func37 #[.agg #[.string np.1, .slice N1 np.2.1.length m1, .slice N2 np.2.2.1.length m2]] ?_
           refine (HA37.out _ HDR.out).mono ?_
           rintro e w11 ⟨rfl, hb11⟩
           refine ⟨_, rfl, ?_⟩
           have HB11 := Aside0.mk (HDR.out.trans (hb11.mono HDR.out.size))
           clear hb11
           refine hK.out _ _ ⟨(hkc _ HB11.out).1, (hkc _ HB11.out).2.1, (hkc _ HB11.out).2.2.1, (hkc _ HB11.out).2.2.2.1, (hkc _ HB11.out).2.2.2.2.1, (hkc _ HB11.out).2.2.2.2.2⟩ (fun hHeld => ?_)
           clear hK K
           refine no_ (N := some 93) ?_
           refine pu_ 9 (some 94) ?_
           refine on_ 10 (some 95) (fun K hK => ?_)
           refine go_ Try.func45 #[.agg #[.string (rd_T27 nl j).f0, .slice M1 (rd_T27 nl j).f1.length c1, .slice M2 (rd_T27 nl j).f2.length c2], .slice P1 ps.1.length p1, .agg #[.string num, .slice none 0 0, .slice none 0 0]] ?_
           refine (HA45.out _ HB11.out).mono ?_
           rintro e w12 ⟨v1, v2, rfl, hv1, hv2, hb12⟩
           obtain ⟨U1, t1', rfl⟩ := Kd.R_slice hv1
           obtain ⟨U2, t2', rfl⟩ := Kd.R_slice hv2
           refine ⟨_, rfl, ?_⟩
           have HV1 := Aside0.mk hv1
           have HV2 := Aside0.mk hv2
           have HB12 := Aside0.mk (HB11.out.trans (hb12.mono HB11.out.size))
           clear hv1 hv2 hb12
           refine hK.out _ _ ⟨(hkc _ HB12.out).1, (hkc _ HB12.out).2.1, (hkc _ HB12.out).2.2.1, (hkc _ HB12.out).2.2.2.1, (hkc _ HB12.out).2.2.2.2.1, (hkc _ HB12.out).2.2.2.2.2⟩ (fun hHeld => ?_)
           clear hK K
           refine no_ (N := some 95) ?_
           refine pu_ 11 (some 84) ?_
           refine pu_ 12 (some 96) ?_
           refine pu_ 13 (some 97) ?_
           refine pu_ 14 (some 98) ?_
           refine la_ 15 (none) (fun K hK => ?_)
           have hn12 := Kd.N_below HNQ.out HB12.out
           obtain ⟨_, _, _, _, _, _, _, _, c0_, c1_, c2_, fz⟩ := N_cells hn12 j hj
           have fz0 : w12.frozen? ⟨g, j * 3, none⟩ = false := fz 0 (by omega)
           have fz1 := fz 1 (by omega)
           have fz2 := fz 2 (by omega)
           have HN12 := Aside0.mk hn12
           clear hn12 fz
           refine skip_ (w1 := ?_) (by rfl) rfl ?_ ?_
           rotate_left
           ·go_simp
            rfl
           refine hK.out _ _ ?_
           clear hK K
           refine done_ (by kernel_rfl) ?_
           have h13 := N_put3 (okp := fun i => wr.heap.size ≤ i) HN12.out j hj ⟨rr.1, rr.2.1, rr.2.2.1⟩ (Kd.R_reads' HV1.out).2.1 (Kd.F_mono (Kd.R_F (Kd.R_bound HV1.out)) (fun i hi => Nat.le_trans HB11.out.size hi.2.1)) (Kd.R_reads' HV2.out).2.1 (Kd.F_mono (Kd.R_F (Kd.R_bound HV2.out)) (fun i hi => Nat.le_trans HB11.out.size hi.2.1)) (fun i hi => ⟨by have := HBQ.out.size; omega, by omega⟩)
           have hB13 : Below w7.heap.size w7 (((w12.setCell ⟨g, j * 3, none⟩ (.string rr.1)).setCell ⟨g, j * 3 + 1, none⟩ (.slice U1 rr.2.1.length t1')).setCell ⟨g, j * 3 + 2, none⟩ (.slice U2 rr.2.2.1.length t2')) := below_set (below_set (below_set (HBQ.out.trans (HB12.out.mono HBQ.out.size)) HGL.out) HGL.out) HGL.out
           have h13 := h13.1
           generalize ((w12.setCell ⟨g, j * 3, none⟩ (.string rr.1)).setCell ⟨g, j * 3 + 1, none⟩ (.slice U1 rr.2.1.length t1')).setCell ⟨g, j * 3 + 2, none⟩ (.slice U2 rr.2.2.1.length t2') = w13 at h13 hB13 ⊢
           have HN13 := Aside0.mk h13
           have HB13 := Aside0.mk hB13
           have hnl13 : (nl.set j ⟨rr.1, rr.2.1, rr.2.2.1⟩).length = l0.length := by rw [List.length_set]; exact HLN.out
           have HL13 := Aside0.mk hnl13
           have hfk : Kd.FK (Kd.slice 27 k27) w13 (fun q => w7.heap.size ≤ q) (nl.set j ⟨rr.1, rr.2.1, rr.2.2.1⟩) [.slice (some ⟨g, 0, none⟩) l0.length cap] := by
            have h := Kd.N_F h13
            have hc := (Kd.N_reads' h13).2.1
            rw [← hnl13] at h hc ⊢
            exact Kd.FK_slice_mk hc h
           have HFK := Aside0.mk hfk
           have HB0 := Aside0.mk (HBW7.out.trans (hB13.mono HBW7.out.size))
           clear h13 hB13 hnl13 hfk c0_ c1_ c2_ fz0 fz1 fz2
           go_wp2_with ((with_reducible refine gate_builtin (b := .append) (xs := #[.tmp 99, .tmp 101]) rfl ?_); at_builtin; refine Kd.N_append (Kd.slice 27 k27) (w0 := w) w.heap.size rfl (.tmp 99) (.tmp 101) 41 22 (.slice none 0 0) 24 rfl Try.underlying41 info22_ rfl (by decide) (by omega) (.slice Av acc.length cv) acc (nl.set j ⟨rr.1, rr.2.1, rr.2.2.1⟩) [.slice (some ⟨g, 0, none⟩) l0.length cap] (fun q => w.heap.size ≤ q) (fun q => w7.heap.size ≤ q) rfl rfl HFK.out (fun q hq => ⟨by have := HBW7.out.size; omega, fun he => by have := Kd.N_lt HN7.out q he.symm; omega⟩) (fun q hq => Nat.le_trans HB0.out.size hq) (Kd.N_below HN7.out HB13.out) HB0.out HB0.out.size (by have := HJ.out.2; omega) ?_; intro v14 w14 hn14 hb14 _ _; have HN14 := Aside0.mk hn14; have HB14 := Aside0.mk hb14; clear hn14 hb14)
           go_meet
           exact ⟨HN14, HB14⟩

end Go.Proofs.Ytfampmajmbediaa.P
