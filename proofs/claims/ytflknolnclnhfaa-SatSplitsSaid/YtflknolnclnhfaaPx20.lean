-- Written by the session's own program wip/tools/xprint.py out of the translation, with the kit's print.py on a scratch copy; functions given by hand stand among them.
import Derived.Test.YtflknolnclnhfaaPx0
import Derived.Test.YtflknolnclnhfaaPx1
import Derived.Test.YtflknolnclnhfaaPx2
import Derived.Test.YtflknolnclnhfaaPx4
import Derived.Test.YtflknolnclnhfaaPx5
namespace Go.Proofs.Ytflknolnclnhfaa.P
open Go.RowKit Go.Proofs.YtflknolnclnhfaaW.PrintWords Go.Proofs.YtflknolnclnhfaaW.PrintLast Go.Proofs.YtflknolnclnhfaaW.PrintMore
attribute [local go_sem] max2_int min2_int max_two min_two max_three min_three max_four min_four   -- for this text's walks alone
set_option linter.unusedVariables false
set_option linter.unusedSimpArgs false

/-! ### pentaglotlaw28_SatSplits: function 10, by hand -/
-- leans on 25 17 15 13 14
def noPanic (Q : Exit → Act → World → Prop) : Exit → Act → World → Prop
  | .panic _, _, _ => False
  | e, a, w => Q e a w
theorem wp_noPanic {c : Code} {P : Program} {K : Act → World → Prop} {Q : Exit → Act → World → Prop} {a : Act} {w : World} (h : c.wp P (Exit.then K (noPanic Q)) a w) : c.wp P (Exit.then K Q) a w := wp_mono h (fun e a w hq => by
  cases e with
  | panic ch => exact absurd hq (fun h => h)
  | _ => exact hq)
theorem getD_list (l : List Value) (i : Nat) (d : Value) : l.toArray.getD i d = l.getD i d := by simp [Array.getD_eq_getD_getElem?, List.getD_eq_getElem?_getD]
theorem mu_lt {n j : Nat} {u v : Value} (hu : u = .int .i64 ((j + 1 : Nat) : Int)) (hv : v = .int .i64 (j : Int)) (h : j < n) : n - (intOf u).toNat < n - (intOf v).toNat := by
  subst hu hv
  simp only [intOf, Int.toNat_natCast]
  omega
theorem dropB {x : List Bool} {j : Nat} (h : j < x.length) : x.drop j = rdOf false x (j : Int) :: x.drop (j + 1) := by
  unfold rdOf
  rw [Int.toNat_natCast, List.getD_eq_getElem?_getD, List.getElem?_eq_getElem h]
  exact List.drop_eq_getElem_cons h
theorem wpIn_region_hid {P : Program} {n id : Nat} {r : Option Nat} {l : List Oper} {Q : Exit → Act → World → Prop} {a : Act} {w : World} (hQ : ∀ a w, ¬ Q .outgrown a w) (hd : ∀ o ∈ l, ∀ c, o.op ≠ .defer c)
    (h : ∀ Q' : Exit → Act → World → Prop, (∀ e a w, Q e a w → Q' e a w) → wpList P l.toArray Q' l a w) : (Code.region id l.toArray false).wpIn { Fence.wide with round := r } n P Q a w := wpIn_region_of hQ hd (h Q (fun _ _ _ h => h))
theorem wpIn_act {F : Fence} {m : Nat} {P : Program} {c : Code} {Q : Exit → Act → World → Prop} {a a' : Act} {w : World} (h : a = a') (k : c.wpIn F m P Q a' w) : c.wpIn F m P Q a w := h ▸ k
structure AtS (w W : World) (n0 : Int) (A : Option Addr) (c : Nat) (gs : List S52) (n2 : Int) : Prop where
  bel : Below w.heap.size w W
  box : W.heap[w.heap.size]? = some (.cells #[.int .i64 n0, .slice A gs.length c, .int .i64 n2] 24 (0, 0))
  br : W.heap[w.heap.size + 1]? = some (.cells #[.bool false] 4 (0, 0))
section
variable {w W W1 : World} {n0 : Int} {A : Option Addr} {c : Nat} {gs : List S52} {n2 : Int}
theorem AtS.step (h : AtS w W n0 A c gs n2) (hb : Below W.heap.size W W1) : AtS w W1 n0 A c gs n2 := ⟨h.bel.trans (hb.mono h.bel.size), blk_below h.box hb, blk_below h.br hb⟩
theorem AtS.new (w : World) (n0 : Int) (A : Option Addr) (c : Nat) (gs : List S52) (n2 : Int) :
    AtS w ((w.alloc (.cells #[.int .i64 n0, .slice A gs.length c, .int .i64 n2] 24)).alloc (.cells #[.bool false] 4)) n0 A c gs n2 := by
  refine ⟨below_alloc (below_alloc (Below.refl _ _) _) _, blk_alloc (heap_alloc_new _ _) _, ?_⟩
  have h := heap_alloc_new (w.alloc (.cells #[.int .i64 n0, .slice A gs.length c, .int .i64 n2] 24)) (.cells #[.bool false] 4)
  simp only [World.size_alloc] at h
  exact h
theorem AtS.c0 (h : AtS w W n0 A c gs n2) : W.cell? ⟨w.heap.size, 0, none⟩ = some (.int .i64 n0) := (blk_cell h.box 0).trans rfl
theorem AtS.c1 (h : AtS w W n0 A c gs n2) : W.cell? ⟨w.heap.size, 1, none⟩ = some (.slice A gs.length c) := (blk_cell h.box 1).trans rfl
theorem AtS.c2 (h : AtS w W n0 A c gs n2) : W.cell? ⟨w.heap.size, 2, none⟩ = some (.int .i64 n2) := (blk_cell h.box 2).trans rfl
theorem AtS.cr_ (h : AtS w W n0 A c gs n2) : W.cell? ⟨w.heap.size + 1, 0, none⟩ = some (.bool false) := (blk_cell h.br 0).trans rfl
theorem AtS.fr_ (h : AtS w W n0 A c gs n2) : W.frozen? ⟨w.heap.size + 1, 0, none⟩ = false := blk_frozen h.br 0
end
/-- A block of the circuit d. -/
structure AtD (w W : World) (n0 : Int) (A : Option Addr) (c : Nat) (gs : List S52) (n2 : Int) (bd : Nat) (q : Array Value) : Prop extends AtS w W n0 A c gs n2 where
  bdd : W.heap[bd]? = some (.cells q 24 (0, 0))
  ge : w.heap.size + 2 ≤ bd
section
variable {w W W1 : World} {n0 : Int} {A : Option Addr} {c : Nat} {gs : List S52} {n2 : Int} {bd : Nat} {q : Array Value}
theorem AtD.step' (h : AtD w W n0 A c gs n2 bd q) (hb : Below W.heap.size W W1) : AtD w W1 n0 A c gs n2 bd q := ⟨h.toAtS.step hb, blk_below h.bdd hb, h.ge⟩
theorem AtD.grown (h : AtD w W n0 A c gs n2 bd q) {base : Nat} {ok : Nat → Prop} {v : Value} {xs : List S52} (hN : Kd.N k52 52 W base ok v xs) (hg : W.grownBy W1 v.ownBlock) (hb : Below w.heap.size w W1) : AtD w W1 n0 A c gs n2 bd q :=
  ⟨⟨hb, blk_grown h.box hg (Kd.N_ne hN h.box (by decide)), blk_grown h.br hg (Kd.N_ne hN h.br (by decide))⟩, blk_grown h.bdd hg (Kd.N_ne hN h.bdd (by decide)), h.ge⟩
theorem AtD.put (h : AtD w W n0 A c gs n2 bd q) (i : Nat) (v : Value) {q' : Array Value} (hv : q.setIfInBounds i v = q') : AtD w (W.setCell ⟨bd, i, none⟩ v) n0 A c gs n2 bd q' := by
  have hge := h.ge
  exact ⟨⟨h.bel.setCell (p := ⟨bd, i, none⟩) (by show w.heap.size ≤ bd; omega) _, blk_far h.box (p := ⟨bd, i, none⟩) (by show w.heap.size ≠ bd; omega) v, blk_far h.br (p := ⟨bd, i, none⟩) (by show w.heap.size + 1 ≠ bd; omega) v⟩, blk_put h.bdd i v hv, hge⟩
end
def numB : List Bool → Int → Int
  | [], a => a
  | b :: t, a => numB t (if b = true then wrap64 (wrap64 (2 * a) + 1) else wrap64 (2 * a))
def allSp (k : Nat) (n0 : Int) (gs : List S52) (n2 : Int) : List (List Bool) → Int → Bool
  | [], _ => true
  | x :: t, last => decide (sat_Eval.f k n0 gs n2 x = some (true, 0)) && decide (last < numB x 0) && allSp k n0 gs n2 t (numB x 0)
def lastN : List (List Bool) → Int → Int
  | [], l => l
  | x :: t, _ => lastN t (numB x 0)
theorem allSp_at {k : Nat} {n0 : Int} {gs : List S52} {n2 : Int} {x : List Bool} {t : List (List Bool)} : ∀ {last : Int} (pre : List (List Bool)), allSp k n0 gs n2 (pre ++ x :: t) last = true → sat_Eval.f k n0 gs n2 x = some (true, 0) ∧ lastN pre last < numB x 0
  | last, [], h => by
    rw [List.nil_append, allSp, Bool.and_eq_true, Bool.and_eq_true, decide_eq_true_eq, decide_eq_true_eq] at h
    exact h.1
  | last, y :: pre, h => by
    rw [List.cons_append, allSp, Bool.and_eq_true] at h
    exact allSp_at pre h.2
theorem lastN_snoc (x : List Bool) : ∀ (pre : List (List Bool)) (last : Int), lastN (pre ++ [x]) last = numB x 0
  | [], _ => rfl
  | _ :: pre, _ => lastN_snoc x pre _
def pentaglotlaw28_SatSplits.f (k : Nat) (a0_0 : Int) (l0_1 : List (S52)) (a0_2 : Int) : Option Bool :=
  if pentaglotlaw28_awake.f k = some true then (pentaglotref28_Large.f k a0_0 l0_1 a0_2 60).bind fun b => if b = true then some true else if 8 < a0_0 then some true else
    (sat_Check.f k a0_0 l0_1 a0_2).bind fun v => if v = false then some true else if 20000 < l0_1.length then none else
      (sat_Count.f k a0_0 l0_1 a0_2).bind fun cn => (sat_Count.f k a0_0 (l0_1 ++ [⟨4, 0, [a0_2]⟩]) (l0_1.length : Int)).bind fun cm =>
        if cn.2 = 0 ∧ cm.2 = 0 ∧ wrap64 (cn.1 + cm.1) = shl .i64 1 a0_0 ∧ 0 ≤ a0_0 then (sat_All.seq k a0_0 l0_1 a0_2).bind fun xs => if allSp k a0_0 l0_1 a0_2 xs (-1) = true ∧ (xs.length : Int) = cn.1 ∧ xs.length ≤ 65536 then some true else none else none
  else none
set_option maxHeartbeats 16000000 in
set_option maxRecDepth 100000 in
theorem pentaglotlaw28_SatSplits.calls (k : Nat) (a0_0 : Int) (A0_1 : Option Addr) (c0_1 : Nat) (l0_1 : List (S52)) (a0_2 : Int) (r : Bool) (w : World) (hr0_1 : Kd.C k52 w A0_1 l0_1.length l0_1) (hc0_1 : l0_1.length ≤ c0_1) (h : pentaglotlaw28_SatSplits.f k a0_0 l0_1 a0_2 = some r) :
    Calls Try.prog 10 #[.agg #[.int .i64 a0_0, .slice A0_1 l0_1.length c0_1, .int .i64 a0_2]] w fun e w' => e = .returned (.bool r) ∧ Below w.heap.size w w' := by
  unfold pentaglotlaw28_SatSplits.f at h
  by_cases haw : pentaglotlaw28_awake.f k = some true
  case neg => rw [if_neg haw] at h; cases h
  rw [if_pos haw] at h
  obtain ⟨b, hlg, h2⟩ := Option.bind_eq_some_iff.1 h
  clear h
  have hu24 := Try.underlying24
  have HG := Aside0.mk (Kd.C_F heap52 hr0_1)
  have HX0 := Aside0.mk (AtS.new w a0_0 A0_1 c0_1 l0_1 a0_2)
  have a13 := fun (W : World) => pentaglotlaw28_awake.calls k true W haw
  have a14 := fun (W : World) (hW : Below w.heap.size w W) => pentaglotref28_Large.calls k a0_0 A0_1 c0_1 l0_1 a0_2 60 b W (Kd.C_below hr0_1 hW) hc0_1 hlg
  have HC := Aside0.mk hc0_1
  clear haw hlg hc0_1 hr0_1
  have fin : ∀ W : World, AtS w W a0_0 A0_1 c0_1 l0_1 a0_2 → (W.setCell ⟨w.heap.size + 1, 0, none⟩ (.bool true)).cell? ⟨w.heap.size + 1, 0, none⟩ = some (.bool true) ∧ Below w.heap.size w (W.setCell ⟨w.heap.size + 1, 0, none⟩ (.bool true)) := fun W hW => ⟨(blk_cell (blk_put hW.br 0 (.bool true) rfl) 0).trans rfl, hW.bel.setCell (p := ⟨w.heap.size + 1, 0, none⟩) (Nat.le_add_right _ _) _⟩
  by_cases hb : b = true ∨ 8 < a0_0
  · obtain rfl : r = true := by
      cases b with
      | true => exact (Option.some.inj h2).symm
      | false =>
        rw [if_neg (by decide)] at h2
        rw [if_pos (by rcases hb with hb | hb; cases hb; exact hb)] at h2
        exact (Option.some.inj h2).symm
    clear h2
    refine calls_of_wp_marks Try.func10 rfl ?_
    simp only [Try.ntmps10, List.size_toArray, List.length_cons, List.length_nil, Nat.reduceAdd, Nat.reduceSub, Array.replicate_succ, Array.replicate_zero, List.push_toArray, List.append_toArray, List.nil_append, List.cons_append]
    cases b with
    | true =>
      clear hb
      go_wp2_with (first | (go_at_call 13; refine (a13 _).mono ?_; rintro e w1 ⟨rfl, hb1⟩; have HX1 := Aside0.mk (HX0.out.step hb1); have y0 := HX1.out.c0; have y1 := HX1.out.c1; have y2 := HX1.out.c2; clear hb1 a13) | (go_at_call 14; refine (a14 _ HX1.out.bel).mono ?_; rintro e w2 ⟨rfl, hb2⟩; have HX2 := Aside0.mk (HX1.out.step hb2); clear hb2 a14 y0 y1 y2; have y3 := HX2.out.cr_; have y4 := HX2.out.fr_))
      obtain ⟨q1, q2⟩ := fin _ HX2.out
      exact leavesM_nil (v := .bool true) (by simp [results, Try.results10, go_sem, q1]) ⟨rfl, q2⟩
    | false =>
      have h8 : 8 < a0_0 := by rcases hb with hb | hb; cases hb; exact hb
      clear hb
      go_wp2_with (first | (go_at_call 13; refine (a13 _).mono ?_; rintro e w1 ⟨rfl, hb1⟩; have HX1 := Aside0.mk (HX0.out.step hb1); have y0 := HX1.out.c0; have y1 := HX1.out.c1; have y2 := HX1.out.c2; clear hb1 a13) | (go_at_call 14; refine (a14 _ HX1.out.bel).mono ?_; rintro e w2 ⟨rfl, hb2⟩; have HX2 := Aside0.mk (HX1.out.step hb2); clear hb2 a14 y0 y1 y2; have y0 := HX2.out.c0; have y3 := HX2.out.cr_; have y4 := HX2.out.fr_))
      obtain ⟨q1, q2⟩ := fin _ HX2.out
      exact leavesM_nil (v := .bool true) (by simp [results, Try.results10, go_sem, q1]) ⟨rfl, q2⟩
  obtain rfl : b = false := by cases b with | true => exact absurd (.inl rfl) hb | false => rfl
  have hn8 : ¬ 8 < a0_0 := fun h => hb (.inr h)
  rw [if_neg (by decide), if_neg hn8] at h2
  obtain ⟨v, hv, h3⟩ := Option.bind_eq_some_iff.1 h2
  have a17 := fun (W : World) (hW : Below w.heap.size w W) => sat_Check.calls k a0_0 A0_1 c0_1 l0_1 a0_2 v W (Kd.F_now (Kd.F_below HG.out hW)) HC.out hv
  clear hv h2 hb
  cases v with
  | false =>
    rw [if_pos rfl] at h3
    obtain rfl := Option.some.inj h3
    refine calls_of_wp_marks Try.func10 rfl ?_
    simp only [Try.ntmps10, List.size_toArray, List.length_cons, List.length_nil, Nat.reduceAdd, Nat.reduceSub, Array.replicate_succ, Array.replicate_zero, List.push_toArray, List.append_toArray, List.nil_append, List.cons_append]
    go_wp2_with (first | (go_at_call 13; refine (a13 _).mono ?_; rintro e w1 ⟨rfl, hb1⟩; have HX1 := Aside0.mk (HX0.out.step hb1); have y0 := HX1.out.c0; have y1 := HX1.out.c1; have y2 := HX1.out.c2; clear hb1 a13) | (go_at_call 14; refine (a14 _ HX1.out.bel).mono ?_; rintro e w2 ⟨rfl, hb2⟩; have HX2 := Aside0.mk (HX1.out.step hb2); clear hb2 a14 y0 y1 y2; have y0 := HX2.out.c0; have y1 := HX2.out.c1; have y2 := HX2.out.c2) | (go_at_call 17; refine (a17 _ HX2.out.bel).mono ?_; rintro e w3 ⟨rfl, hb3⟩; have HX3 := Aside0.mk (HX2.out.step hb3); clear hb3 a17 y0 y1 y2; have y3 := HX3.out.cr_; have y4 := HX3.out.fr_))
    obtain ⟨q1, q2⟩ := fin _ HX3.out
    exact leavesM_nil (v := .bool true) (by simp [results, Try.results10, go_sem, q1]) ⟨rfl, q2⟩
  | true =>
  rw [if_neg (by decide)] at h3
  by_cases hlen : 20000 < l0_1.length
  · rw [if_pos hlen] at h3; cases h3
  rw [if_neg hlen] at h3
  obtain ⟨⟨cn, en⟩, hcn, h4⟩ := Option.bind_eq_some_iff.1 h3
  obtain ⟨⟨cm, em⟩, hcm, h5⟩ := Option.bind_eq_some_iff.1 h4
  by_cases hq : en = 0 ∧ em = 0 ∧ wrap64 (cn + cm) = shl .i64 1 a0_0 ∧ 0 ≤ a0_0
  case neg => simp only [if_neg hq] at h5; cases h5
  simp only [if_pos hq] at h5
  obtain ⟨xs, hxs, h6⟩ := Option.bind_eq_some_iff.1 h5
  by_cases hq2 : allSp k a0_0 l0_1 a0_2 xs (-1) = true ∧ (xs.length : Int) = cn ∧ xs.length ≤ 65536
  case neg => rw [if_neg hq2] at h6; cases h6
  rw [if_pos hq2] at h6
  obtain rfl := Option.some.inj h6
  obtain ⟨rfl, rfl, hsum, hn0⟩ := hq
  have HXS := Aside0.mk hxs
  have HQ2 := Aside0.mk hq2
  have HSUM := Aside0.mk hsum
  have HCM := Aside0.mk hcm
  have a25 := fun (W : World) (hW : Below w.heap.size w W) => sat_Count.calls k a0_0 A0_1 c0_1 l0_1 a0_2 cn 0 W (Kd.F_now (Kd.F_below HG.out hW)) HC.out hcn
  clear h3 h4 h5 h6 hxs hq2 hsum hcm hcn
  refine calls_of_wp_marks Try.func10 rfl ?_
  simp only [Try.ntmps10, List.size_toArray, List.length_cons, List.length_nil, Nat.reduceAdd, Nat.reduceSub, Array.replicate_succ, Array.replicate_zero, List.push_toArray, List.append_toArray, List.nil_append, List.cons_append]
  go_wp2_with (first | (go_at_call 13; refine (a13 _).mono ?_; rintro e w1 ⟨rfl, hb1⟩; have HX1 := Aside0.mk (HX0.out.step hb1); have y0 := HX1.out.c0; have y1 := HX1.out.c1; have y2 := HX1.out.c2; clear hb1 a13) | (go_at_call 14; refine (a14 _ HX1.out.bel).mono ?_; rintro e w2 ⟨rfl, hb2⟩; have HX2 := Aside0.mk (HX1.out.step hb2); clear hb2 a14 y0 y1 y2; have y0 := HX2.out.c0; have y1 := HX2.out.c1; have y2 := HX2.out.c2) | (go_at_call 17; refine (a17 _ HX2.out.bel).mono ?_; rintro e w3 ⟨rfl, hb3⟩; have HX3 := Aside0.mk (HX2.out.step hb3); clear hb3 a17 y0 y1 y2; have y0 := HX3.out.c0; have y1 := HX3.out.c1; have y2 := HX3.out.c2))
  have hd : AtD w (w3.alloc (.cells #[.int .i64 a0_0, .slice A0_1 l0_1.length c0_1, .int .i64 a0_2] 24)) a0_0 A0_1 c0_1 l0_1 a0_2 w3.heap.size #[.int .i64 a0_0, .slice A0_1 l0_1.length c0_1, .int .i64 a0_2] := ⟨HX3.out.step (below_alloc (Below.refl _ _) _), heap_alloc_new _ _, blk_lt HX3.out.br⟩
  have HD := Aside0.mk hd
  clear hd y0 y1 y2
  generalize w3.alloc (.cells #[.int .i64 a0_0, .slice A0_1 l0_1.length c0_1, .int .i64 a0_2] 24) = W5 at HD ⊢
  have hlen' : l0_1.length ≤ 20000 := by omega
  refine wp_noPanic ?_
  refine start_ (n := 12) (S := fun w' => w'.cell? ⟨w.heap.size, 0, none⟩ = some (.int .i64 a0_0) ∧ w'.cell? ⟨w.heap.size, 1, none⟩ = some (.slice A0_1 l0_1.length c0_1) ∧ w'.cell? ⟨w.heap.size, 2, none⟩ = some (.int .i64 a0_2)) (ds := []) #[false, false, false, false, false, false, false, false, false, false, false, false] (by kernel_rfl) rfl rfl ⟨(HD.out.step' (below_drew (Below.refl _ _))).c0, (HD.out.step' (below_drew (Below.refl _ _))).c1, (HD.out.step' (below_drew (Below.refl _ _))).c2⟩ (fun hHeld => ?_)
  have HT_ : Aside0 (rtab .any (opsOf Try.f10 6) = rtab .any (opsOf Try.f10 6)) := ⟨rfl⟩
  have HD_ := Aside0.mk (HD.out.step' (below_drew (Below.refl _ _)))
  clear HD
  have HD := HD_
  clear HD_
  generalize W5.drew = W6 at HD hHeld ⊢
  refine pure_ (i := 1) (N := some 32) (v := ?_) (a' := ?_) #[false, true, false, false, false, false, false, false, false, false, false, false] rfl rfl (any_of HT_.out (by kernel_rfl)) (fun _ _ _ h => h) (Or.inl ⟨by rfl, ?_⟩) ?_ ?_
  rotate_left
  · intro w'
    go_simp
    with_reducible rfl
  rotate_left
  · simp only [Act.put, List.setIfInBounds_toArray, List.set_cons_zero, List.set_cons_succ, i64_w, i32_w]
    rfl
  refine pure_ (i := 4) (N := some 35) (v := ?_) (a' := ?_) #[false, true, false, false, true, false, false, false, false, false, false, false] rfl rfl (any_of HT_.out (by kernel_rfl)) (fun _ _ _ h => h) (Or.inl ⟨by rfl, ?_⟩) ?_ ?_
  rotate_left
  · intro w'
    go_simp
    with_reducible rfl
  rotate_left
  · simp only [Act.put, List.setIfInBounds_toArray, List.set_cons_zero, List.set_cons_succ, i64_w, i32_w]
    rfl
  refine take_ (i := 2) (N := some 33) (v := ?_) (a' := ?_) #[false, true, true, false, true, false, false, false, false, false, false, false] rfl rfl (take_of HT_.out (by kernel_rfl)) (fun _ _ _ h => h) (Or.inl ⟨by rfl, ?_⟩) hHeld ?_ ?_
  rotate_left
  · rintro w' ⟨s0, s1, s2⟩
    go_simp
    with_reducible rfl
  rotate_left
  · simp only [Act.put, List.setIfInBounds_toArray, List.set_cons_zero, List.set_cons_succ, i64_w, i32_w]
    rfl
  refine take_ (i := 5) (N := some 36) (v := ?_) (a' := ?_) #[false, true, true, false, true, true, false, false, false, false, false, false] rfl rfl (take_of HT_.out (by kernel_rfl)) (fun _ _ _ h => h) (Or.inl ⟨by rfl, ?_⟩) hHeld ?_ ?_
  rotate_left
  · rintro w' ⟨s0, s1, s2⟩
    go_simp
    with_reducible rfl
  rotate_left
  · simp only [Act.put, List.setIfInBounds_toArray, List.set_cons_zero, List.set_cons_succ, i64_w, i32_w]
    rfl
  refine join_ (σ := Value × Value × Value × Option Addr × Nat) 3 #[true, true, true, true, true, true, true, true, true, false, false, false] (fun s_ => [(31, s_.1), (34, s_.2.1), (37, .slice s_.2.2.2.1 ([a0_2] : List Int).length s_.2.2.2.2), (38, .agg #[.int .i64 4, .int .i64 0, .slice s_.2.2.2.1 1 s_.2.2.2.2]), (39, s_.2.2.1)]) (fun s_ w' => (w'.cell? ⟨w.heap.size, 0, none⟩ = some (.int .i64 a0_0) ∧ w'.cell? ⟨w.heap.size, 1, none⟩ = some (.slice A0_1 l0_1.length c0_1) ∧ w'.cell? ⟨w.heap.size, 2, none⟩ = some (.int .i64 a0_2)) ∧ AtD w w' a0_0 A0_1 c0_1 l0_1 a0_2 w3.heap.size #[.int .i64 a0_0, .slice A0_1 l0_1.length c0_1, .int .i64 a0_2] ∧ Kd.N k52 52 w' w.heap.size (fun k_ => k_ ≠ w3.heap.size) s_.2.1 l0_1 ∧ Kd.N k52 52 w' w.heap.size (fun k_ => k_ ≠ w3.heap.size ∧ some k_ ≠ s_.2.1.ownBlock) s_.2.2.1 [(⟨4, 0, [a0_2]⟩ : S52)]) ?_ ?_
  rotate_left
  · intro hCont
    refine two_ (i := 0) (j := 6) (Ni := some 31) (Nj := some 37) #[true, true, true, false, true, true, false, false, false, false, false, false] #[false, true, true, false, true, true, true, false, false, false, false, false] rfl rfl rfl rfl (two_of HT_.out (by kernel_rfl)) (by decide) (by decide) (fun K hK => ?_) (fun K hK => ?_)
    · skip
      refine Kd.N_lit_step k52 _ 52 ?hg (N' := 31) ?hd (xs := ([] : List S52)) (inner := []) (ok := fun k_ => k_ ≠ w3.heap.size) (okp := fun k_ => k_ ≠ w3.heap.size) ?hr ?hp (fun _ hk => hk) (Nat.ne_of_gt (blk_lt HD.out.bdd)) (Below.refl _ _) (Nat.le_refl _) (by simp) ?_; (case hd => rfl); (case hg => rfl); (case hr => first | (go_simp; done) | (go_simp; rfl)); (case hp => exact (Reps.none _ _))
      intro vO W1 hN hb hg_ hnew_
      clear hg_ hnew_
      have HD_ := Aside0.mk (HD.out.step' hb)
      have NA_ := Aside0.mk (Kd.N_lower hN HD.out.bel.size)
      clear HD
      have HD := HD_
      clear HD_
      have NA := NA_
      clear NA_
      clear hN hb
      refine hK.out _ _ ⟨HD.out.c0, HD.out.c1, HD.out.c2⟩ (fun hHeld => ?_)
      clear hK K
      refine norm_ (a' := ?_) ?_ ?_
      rotate_left
      · show Act.put _ (some 31) _ = _
        simp only [Act.put, List.setIfInBounds_toArray, List.set_cons_zero, List.set_cons_succ, i64_w, i32_w]
        rfl
      refine two_ (i := 3) (j := 6) (Ni := some 34) (Nj := some 37) #[true, true, true, true, true, true, false, false, false, false, false, false] #[true, true, true, false, true, true, true, false, false, false, false, false] rfl rfl rfl rfl (two_of HT_.out (by kernel_rfl)) (by decide) (by decide) (fun K hK => ?_) (fun K hK => ?_)
      · skip
        refine Kd.N_append_rows_step k52 (w0 := w) w.heap.size (by rfl) (.tmp 31) (.tmp 33) 22 52 (.agg #[(.int .i64 0), (.int .i64 0), (.slice none 0 0)]) 40 rfl Try.underlying22 info52 rfl (by decide) (by omega) vO ([] : List S52) l0_1 _ _ _ (fun k_ => k_ ≠ w3.heap.size) (fun k_ => k_ < w.heap.size) rfl rfl NA.out (Kd.F_below HG.out HD.out.bel) (fun k_ hk => ⟨by have := HD.out.ge; omega, fun he => by have := Kd.N_base NA.out k_ he.symm; omega⟩) (fun k_ hk => by have := blk_lt HD.out.bdd; omega) HD.out.bel HD.out.bel.size (by simp; omega) ?_
        intro vA W1 hN hb hg hat
        have HD_ := Aside0.mk (HD.out.grown NA.out hg hb)
        have NA_ := Aside0.mk (hN)
        clear HD NA
        have HD := HD_
        clear HD_
        have NA := NA_
        clear NA_
        clear hN hb hg hat
        refine hK.out _ _ ⟨HD.out.c0, HD.out.c1, HD.out.c2⟩ (fun hHeld => ?_)
        clear hK K
        refine norm_ (a' := ?_) ?_ ?_
        rotate_left
        · show Act.put _ (some 34) _ = _
          simp only [Act.put, List.setIfInBounds_toArray, List.set_cons_zero, List.set_cons_succ, i64_w, i32_w]
          rfl
        refine one_ (i := 6) (N := some 37) #[true, true, true, true, true, true, true, false, false, false, false, false] rfl rfl (one_of HT_.out (by kernel_rfl)) (by decide) (fun K hK => ?_)
        refine Kd.R_lit_step (Kd.int .i64) _ 3 ?hg (N := 37) ?hd (xs := ([a0_2] : List Int)) (inner := [.int .i64 a0_2]) (ok := (fun k_ => k_ ≠ w3.heap.size ∧ some k_ ≠ vA.ownBlock)) (okp := fun _ => False) ?hr ?hp (fun _ hk => hk.elim) ⟨(Nat.ne_of_gt (blk_lt HD.out.bdd)), fun he => by have := Kd.N_lt NA.out _ he.symm; omega⟩ (Below.refl _ _) (Nat.le_refl _) (by simp) ?_; (case hd => rfl); (case hg => rfl); (case hr => first | (go_simp; done) | (go_simp; rfl)); (case hp => exact (Reps.one (show Kd.M (Kd.int .i64) _ _ _ a0_2 [.int .i64 a0_2] from rfl) (Reps.none _ _)))
        intro vB W1 hN hb hg_ hnew_
        clear hg_ hnew_
        have HD_ := Aside0.mk (HD.out.step' hb)
        have NA_ := Aside0.mk (Kd.N_below NA.out hb)
        have NB_ := Aside0.mk (Kd.R_lower hN HD.out.bel.size)
        clear HD NA
        have HD := HD_
        clear HD_
        have NA := NA_
        clear NA_
        have NB := NB_
        clear NB_
        clear hN hb
        obtain ⟨Ab, cb, rfl⟩ := Kd.R_slice NB.out
        refine hK.out _ _ ⟨HD.out.c0, HD.out.c1, HD.out.c2⟩ (fun hHeld => ?_)
        clear hK K
        refine norm_ (a' := ?_) ?_ ?_
        rotate_left
        · show Act.put _ (some 37) _ = _
          simp only [Act.put, List.setIfInBounds_toArray, List.set_cons_zero, List.set_cons_succ, i64_w, i32_w]
          rfl
        refine pure_ (i := 7) (N := some 38) (v := ?_) (a' := ?_) #[true, true, true, true, true, true, true, true, false, false, false, false] rfl rfl (any_of HT_.out (by kernel_rfl)) (fun _ _ _ h => h) (Or.inl ⟨by rfl, ?_⟩) ?_ ?_
        rotate_left
        · intro w'
          go_simp
          with_reducible rfl
        rotate_left
        · simp only [Act.put, List.setIfInBounds_toArray, List.set_cons_zero, List.set_cons_succ, i64_w, i32_w]
          rfl
        refine one_ (i := 8) (N := some 39) #[true, true, true, true, true, true, true, true, true, false, false, false] rfl rfl (one_of HT_.out (by kernel_rfl)) (by decide) (fun K hK => ?_)
        refine Kd.N_lit_step k52 _ 52 ?hg (N' := 39) ?hd (xs := [(⟨4, 0, [a0_2]⟩ : S52)]) (inner := [.int .i64 4, .int .i64 0, .slice Ab ([a0_2] : List Int).length cb]) (ok := (fun k_ => k_ ≠ w3.heap.size ∧ some k_ ≠ vA.ownBlock)) (okp := (fun k_ => k_ ≠ w3.heap.size ∧ some k_ ≠ vA.ownBlock)) ?hr ?hp (fun _ hk => hk) ⟨(Nat.ne_of_gt (blk_lt HD.out.bdd)), fun he => by have := Kd.N_lt NA.out _ he.symm; omega⟩ (Below.refl _ _) (Nat.le_refl _) (by simp) ?_; (case hd => rfl); (case hg => rfl); (case hr => first | (go_simp; done) | (go_simp; rfl)); (case hp => exact (Reps.c3 (k52_mkF _ _ (⟨4, 0, [a0_2]⟩ : S52) (Kd.R_reads' NB.out).2.1 (Kd.R_F NB.out)) (Reps.none _ _)))
        intro vC W1 hN hb hg_ hnew_
        clear hg_ hnew_
        have HD_ := Aside0.mk (HD.out.step' hb)
        have NA_ := Aside0.mk (Kd.N_below NA.out hb)
        have NB_ := Aside0.mk (Kd.N_lower hN HD.out.bel.size)
        clear HD NA NB
        have HD := HD_
        clear HD_
        have NA := NA_
        clear NA_
        have NB := NB_
        clear NB_
        clear hN hb
        refine hK.out _ _ ⟨HD.out.c0, HD.out.c1, HD.out.c2⟩ (fun hHeld => ?_)
        clear hK K
        refine norm_ (a' := ?_) ?_ ?_
        rotate_left
        · show Act.put _ (some 39) _ = _
          simp only [Act.put, List.setIfInBounds_toArray, List.set_cons_zero, List.set_cons_succ, i64_w, i32_w]
          rfl
        exact norm_ (by simp only [putAll, Act.put, List.setIfInBounds_toArray, List.set_cons_zero, List.set_cons_succ]) (hCont (vO, vA, vC, Ab, cb) _ ⟨hHeld, HD.out, NA.out, NB.out⟩)
      · skip
        refine Kd.R_lit_step (Kd.int .i64) _ 3 ?hg (N := 37) ?hd (xs := ([a0_2] : List Int)) (inner := [.int .i64 a0_2]) (ok := (fun k_ => k_ ≠ w3.heap.size ∧ some k_ ≠ vO.ownBlock)) (okp := fun _ => False) ?hr ?hp (fun _ hk => hk.elim) ⟨(Nat.ne_of_gt (blk_lt HD.out.bdd)), fun he => by have := Kd.N_lt NA.out _ he.symm; omega⟩ (Below.refl _ _) (Nat.le_refl _) (by simp) ?_; (case hd => rfl); (case hg => rfl); (case hr => first | (go_simp; done) | (go_simp; rfl)); (case hp => exact (Reps.one (show Kd.M (Kd.int .i64) _ _ _ a0_2 [.int .i64 a0_2] from rfl) (Reps.none _ _)))
        intro vB W1 hN hb hg_ hnew_
        clear hg_ hnew_
        have HD_ := Aside0.mk (HD.out.step' hb)
        have NA_ := Aside0.mk (Kd.N_below NA.out hb)
        have NB_ := Aside0.mk (Kd.R_lower hN HD.out.bel.size)
        clear HD NA
        have HD := HD_
        clear HD_
        have NA := NA_
        clear NA_
        have NB := NB_
        clear NB_
        clear hN hb
        obtain ⟨Ab, cb, rfl⟩ := Kd.R_slice NB.out
        refine hK.out _ _ ⟨HD.out.c0, HD.out.c1, HD.out.c2⟩ (fun hHeld => ?_)
        clear hK K
        refine norm_ (a' := ?_) ?_ ?_
        rotate_left
        · show Act.put _ (some 37) _ = _
          simp only [Act.put, List.setIfInBounds_toArray, List.set_cons_zero, List.set_cons_succ, i64_w, i32_w]
          rfl
        refine pure_ (i := 7) (N := some 38) (v := ?_) (a' := ?_) #[true, true, true, false, true, true, true, true, false, false, false, false] rfl rfl (any_of HT_.out (by kernel_rfl)) (fun _ _ _ h => h) (Or.inl ⟨by rfl, ?_⟩) ?_ ?_
        rotate_left
        · intro w'
          go_simp
          with_reducible rfl
        rotate_left
        · simp only [Act.put, List.setIfInBounds_toArray, List.set_cons_zero, List.set_cons_succ, i64_w, i32_w]
          rfl
        refine two_ (i := 3) (j := 8) (Ni := some 34) (Nj := some 39) #[true, true, true, true, true, true, true, true, false, false, false, false] #[true, true, true, false, true, true, true, true, true, false, false, false] rfl rfl rfl rfl (two_of HT_.out (by kernel_rfl)) (by decide) (by decide) (fun K hK => ?_) (fun K hK => ?_)
        · skip
          refine Kd.N_append_rows_step k52 (w0 := w) w.heap.size (by rfl) (.tmp 31) (.tmp 33) 22 52 (.agg #[(.int .i64 0), (.int .i64 0), (.slice none 0 0)]) 40 rfl Try.underlying22 info52 rfl (by decide) (by omega) vO ([] : List S52) l0_1 _ _ _ (fun k_ => k_ ≠ w3.heap.size) (fun k_ => k_ < w.heap.size) rfl rfl NA.out (Kd.F_below HG.out HD.out.bel) (fun k_ hk => ⟨by have := HD.out.ge; omega, fun he => by have := Kd.N_base NA.out k_ he.symm; omega⟩) (fun k_ hk => by have := blk_lt HD.out.bdd; omega) HD.out.bel HD.out.bel.size (by simp; omega) ?_
          intro vA W1 hN hb hg hat
          have HD_ := Aside0.mk (HD.out.grown NA.out hg hb)
          have NA_ := Aside0.mk (hN)
          have NB_ := Aside0.mk (Kd.R_after NB.out hg hat)
          clear HD NA NB
          have HD := HD_
          clear HD_
          have NA := NA_
          clear NA_
          have NB := NB_
          clear NB_
          clear hN hb hg hat
          refine hK.out _ _ ⟨HD.out.c0, HD.out.c1, HD.out.c2⟩ (fun hHeld => ?_)
          clear hK K
          refine norm_ (a' := ?_) ?_ ?_
          rotate_left
          · show Act.put _ (some 34) _ = _
            simp only [Act.put, List.setIfInBounds_toArray, List.set_cons_zero, List.set_cons_succ, i64_w, i32_w]
            rfl
          refine one_ (i := 8) (N := some 39) #[true, true, true, true, true, true, true, true, true, false, false, false] rfl rfl (one_of HT_.out (by kernel_rfl)) (by decide) (fun K hK => ?_)
          refine Kd.N_lit_step k52 _ 52 ?hg (N' := 39) ?hd (xs := [(⟨4, 0, [a0_2]⟩ : S52)]) (inner := [.int .i64 4, .int .i64 0, .slice Ab ([a0_2] : List Int).length cb]) (ok := (fun k_ => k_ ≠ w3.heap.size ∧ some k_ ≠ vA.ownBlock)) (okp := (fun k_ => k_ ≠ w3.heap.size ∧ some k_ ≠ vA.ownBlock)) ?hr ?hp (fun _ hk => hk) ⟨(Nat.ne_of_gt (blk_lt HD.out.bdd)), fun he => by have := Kd.N_lt NA.out _ he.symm; omega⟩ (Below.refl _ _) (Nat.le_refl _) (by simp) ?_; (case hd => rfl); (case hg => rfl); (case hr => first | (go_simp; done) | (go_simp; rfl)); (case hp => exact (Reps.c3 (k52_mkF _ _ (⟨4, 0, [a0_2]⟩ : S52) (Kd.R_reads' NB.out).2.1 (Kd.R_F NB.out)) (Reps.none _ _)))
          intro vC W1 hN hb hg_ hnew_
          clear hg_ hnew_
          have HD_ := Aside0.mk (HD.out.step' hb)
          have NA_ := Aside0.mk (Kd.N_below NA.out hb)
          have NB_ := Aside0.mk (Kd.N_lower hN HD.out.bel.size)
          clear HD NA NB
          have HD := HD_
          clear HD_
          have NA := NA_
          clear NA_
          have NB := NB_
          clear NB_
          clear hN hb
          refine hK.out _ _ ⟨HD.out.c0, HD.out.c1, HD.out.c2⟩ (fun hHeld => ?_)
          clear hK K
          refine norm_ (a' := ?_) ?_ ?_
          rotate_left
          · show Act.put _ (some 39) _ = _
            simp only [Act.put, List.setIfInBounds_toArray, List.set_cons_zero, List.set_cons_succ, i64_w, i32_w]
            rfl
          exact norm_ (by simp only [putAll, Act.put, List.setIfInBounds_toArray, List.set_cons_zero, List.set_cons_succ]) (hCont (vO, vA, vC, Ab, cb) _ ⟨hHeld, HD.out, NA.out, NB.out⟩)
        · skip
          refine Kd.N_lit_step k52 _ 52 ?hg (N' := 39) ?hd (xs := [(⟨4, 0, [a0_2]⟩ : S52)]) (inner := [.int .i64 4, .int .i64 0, .slice Ab ([a0_2] : List Int).length cb]) (ok := (fun k_ => k_ ≠ w3.heap.size ∧ some k_ ≠ vO.ownBlock)) (okp := (fun k_ => k_ ≠ w3.heap.size ∧ some k_ ≠ vO.ownBlock)) ?hr ?hp (fun _ hk => hk) ⟨(Nat.ne_of_gt (blk_lt HD.out.bdd)), fun he => by have := Kd.N_lt NA.out _ he.symm; omega⟩ (Below.refl _ _) (Nat.le_refl _) (by simp) ?_; (case hd => rfl); (case hg => rfl); (case hr => first | (go_simp; done) | (go_simp; rfl)); (case hp => exact (Reps.c3 (k52_mkF _ _ (⟨4, 0, [a0_2]⟩ : S52) (Kd.R_reads' NB.out).2.1 (Kd.R_F NB.out)) (Reps.none _ _)))
          intro vC W1 hN hb hg_ hnew_
          clear hg_ hnew_
          have HD_ := Aside0.mk (HD.out.step' hb)
          have NA_ := Aside0.mk (Kd.N_below NA.out hb)
          have NB_ := Aside0.mk (Kd.N_lower hN HD.out.bel.size)
          clear HD NA NB
          have HD := HD_
          clear HD_
          have NA := NA_
          clear NA_
          have NB := NB_
          clear NB_
          clear hN hb
          refine hK.out _ _ ⟨HD.out.c0, HD.out.c1, HD.out.c2⟩ (fun hHeld => ?_)
          clear hK K
          refine norm_ (a' := ?_) ?_ ?_
          rotate_left
          · show Act.put _ (some 39) _ = _
            simp only [Act.put, List.setIfInBounds_toArray, List.set_cons_zero, List.set_cons_succ, i64_w, i32_w]
            rfl
          refine one_ (i := 3) (N := some 34) #[true, true, true, true, true, true, true, true, true, false, false, false] rfl rfl (one_of HT_.out (by kernel_rfl)) (by decide) (fun K hK => ?_)
          refine Kd.N_append_rows_step k52 (w0 := w) w.heap.size (by rfl) (.tmp 31) (.tmp 33) 22 52 (.agg #[(.int .i64 0), (.int .i64 0), (.slice none 0 0)]) 40 rfl Try.underlying22 info52 rfl (by decide) (by omega) vO ([] : List S52) l0_1 _ _ _ (fun k_ => k_ ≠ w3.heap.size) (fun k_ => k_ < w.heap.size) rfl rfl NA.out (Kd.F_below HG.out HD.out.bel) (fun k_ hk => ⟨by have := HD.out.ge; omega, fun he => by have := Kd.N_base NA.out k_ he.symm; omega⟩) (fun k_ hk => by have := blk_lt HD.out.bdd; omega) HD.out.bel HD.out.bel.size (by simp; omega) ?_
          intro vA W1 hN hb hg hat
          have HD_ := Aside0.mk (HD.out.grown NA.out hg hb)
          have NA_ := Aside0.mk (hN)
          have NB_ := Aside0.mk (Kd.N_after NB.out hg hat)
          clear HD NA NB
          have HD := HD_
          clear HD_
          have NA := NA_
          clear NA_
          have NB := NB_
          clear NB_
          clear hN hb hg hat
          refine hK.out _ _ ⟨HD.out.c0, HD.out.c1, HD.out.c2⟩ (fun hHeld => ?_)
          clear hK K
          refine norm_ (a' := ?_) ?_ ?_
          rotate_left
          · show Act.put _ (some 34) _ = _
            simp only [Act.put, List.setIfInBounds_toArray, List.set_cons_zero, List.set_cons_succ, i64_w, i32_w]
            rfl
          exact norm_ (by simp only [putAll, Act.put, List.setIfInBounds_toArray, List.set_cons_zero, List.set_cons_succ]) (hCont (vO, vA, vC, Ab, cb) _ ⟨hHeld, HD.out, NA.out, NB.out⟩)
    · skip
      refine Kd.R_lit_step (Kd.int .i64) _ 3 ?hg (N := 37) ?hd (xs := ([a0_2] : List Int)) (inner := [.int .i64 a0_2]) (ok := (fun k_ => k_ ≠ w3.heap.size)) (okp := fun _ => False) ?hr ?hp (fun _ hk => hk.elim) (Nat.ne_of_gt (blk_lt HD.out.bdd)) (Below.refl _ _) (Nat.le_refl _) (by simp) ?_; (case hd => rfl); (case hg => rfl); (case hr => first | (go_simp; done) | (go_simp; rfl)); (case hp => exact (Reps.one (show Kd.M (Kd.int .i64) _ _ _ a0_2 [.int .i64 a0_2] from rfl) (Reps.none _ _)))
      intro vB W1 hN hb hg_ hnew_
      clear hg_ hnew_
      have HD_ := Aside0.mk (HD.out.step' hb)
      have NB_ := Aside0.mk (Kd.R_lower hN HD.out.bel.size)
      clear HD
      have HD := HD_
      clear HD_
      have NB := NB_
      clear NB_
      clear hN hb
      obtain ⟨Ab, cb, rfl⟩ := Kd.R_slice NB.out
      refine hK.out _ _ ⟨HD.out.c0, HD.out.c1, HD.out.c2⟩ (fun hHeld => ?_)
      clear hK K
      refine norm_ (a' := ?_) ?_ ?_
      rotate_left
      · show Act.put _ (some 37) _ = _
        simp only [Act.put, List.setIfInBounds_toArray, List.set_cons_zero, List.set_cons_succ, i64_w, i32_w]
        rfl
      refine pure_ (i := 7) (N := some 38) (v := ?_) (a' := ?_) #[false, true, true, false, true, true, true, true, false, false, false, false] rfl rfl (any_of HT_.out (by kernel_rfl)) (fun _ _ _ h => h) (Or.inl ⟨by rfl, ?_⟩) ?_ ?_
      rotate_left
      · intro w'
        go_simp
        with_reducible rfl
      rotate_left
      · simp only [Act.put, List.setIfInBounds_toArray, List.set_cons_zero, List.set_cons_succ, i64_w, i32_w]
        rfl
      refine two_ (i := 0) (j := 8) (Ni := some 31) (Nj := some 39) #[true, true, true, false, true, true, true, true, false, false, false, false] #[false, true, true, false, true, true, true, true, true, false, false, false] rfl rfl rfl rfl (two_of HT_.out (by kernel_rfl)) (by decide) (by decide) (fun K hK => ?_) (fun K hK => ?_)
      · skip
        refine Kd.N_lit_step k52 _ 52 ?hg (N' := 31) ?hd (xs := ([] : List S52)) (inner := []) (ok := fun k_ => k_ ≠ w3.heap.size) (okp := fun k_ => k_ ≠ w3.heap.size) ?hr ?hp (fun _ hk => hk) (Nat.ne_of_gt (blk_lt HD.out.bdd)) (Below.refl _ _) (Nat.le_refl _) (by simp) ?_; (case hd => rfl); (case hg => rfl); (case hr => first | (go_simp; done) | (go_simp; rfl)); (case hp => exact (Reps.none _ _))
        intro vO W1 hN hb hg_ hnew_
        clear hg_ hnew_
        have HD_ := Aside0.mk (HD.out.step' hb)
        have NA_ := Aside0.mk (Kd.N_lower hN HD.out.bel.size)
        have NB_ := Aside0.mk (Kd.R_elder' NB.out (Kd.N_base hN) hb)
        clear HD NB
        have HD := HD_
        clear HD_
        have NA := NA_
        clear NA_
        have NB := NB_
        clear NB_
        clear hN hb
        refine hK.out _ _ ⟨HD.out.c0, HD.out.c1, HD.out.c2⟩ (fun hHeld => ?_)
        clear hK K
        refine norm_ (a' := ?_) ?_ ?_
        rotate_left
        · show Act.put _ (some 31) _ = _
          simp only [Act.put, List.setIfInBounds_toArray, List.set_cons_zero, List.set_cons_succ, i64_w, i32_w]
          rfl
        refine two_ (i := 3) (j := 8) (Ni := some 34) (Nj := some 39) #[true, true, true, true, true, true, true, true, false, false, false, false] #[true, true, true, false, true, true, true, true, true, false, false, false] rfl rfl rfl rfl (two_of HT_.out (by kernel_rfl)) (by decide) (by decide) (fun K hK => ?_) (fun K hK => ?_)
        · skip
          refine Kd.N_append_rows_step k52 (w0 := w) w.heap.size (by rfl) (.tmp 31) (.tmp 33) 22 52 (.agg #[(.int .i64 0), (.int .i64 0), (.slice none 0 0)]) 40 rfl Try.underlying22 info52 rfl (by decide) (by omega) vO ([] : List S52) l0_1 _ _ _ (fun k_ => k_ ≠ w3.heap.size) (fun k_ => k_ < w.heap.size) rfl rfl NA.out (Kd.F_below HG.out HD.out.bel) (fun k_ hk => ⟨by have := HD.out.ge; omega, fun he => by have := Kd.N_base NA.out k_ he.symm; omega⟩) (fun k_ hk => by have := blk_lt HD.out.bdd; omega) HD.out.bel HD.out.bel.size (by simp; omega) ?_
          intro vA W1 hN hb hg hat
          have HD_ := Aside0.mk (HD.out.grown NA.out hg hb)
          have NA_ := Aside0.mk (hN)
          have NB_ := Aside0.mk (Kd.R_after NB.out hg hat)
          clear HD NA NB
          have HD := HD_
          clear HD_
          have NA := NA_
          clear NA_
          have NB := NB_
          clear NB_
          clear hN hb hg hat
          refine hK.out _ _ ⟨HD.out.c0, HD.out.c1, HD.out.c2⟩ (fun hHeld => ?_)
          clear hK K
          refine norm_ (a' := ?_) ?_ ?_
          rotate_left
          · show Act.put _ (some 34) _ = _
            simp only [Act.put, List.setIfInBounds_toArray, List.set_cons_zero, List.set_cons_succ, i64_w, i32_w]
            rfl
          refine one_ (i := 8) (N := some 39) #[true, true, true, true, true, true, true, true, true, false, false, false] rfl rfl (one_of HT_.out (by kernel_rfl)) (by decide) (fun K hK => ?_)
          refine Kd.N_lit_step k52 _ 52 ?hg (N' := 39) ?hd (xs := [(⟨4, 0, [a0_2]⟩ : S52)]) (inner := [.int .i64 4, .int .i64 0, .slice Ab ([a0_2] : List Int).length cb]) (ok := (fun k_ => k_ ≠ w3.heap.size ∧ some k_ ≠ vA.ownBlock)) (okp := (fun k_ => k_ ≠ w3.heap.size ∧ some k_ ≠ vA.ownBlock)) ?hr ?hp (fun _ hk => hk) ⟨(Nat.ne_of_gt (blk_lt HD.out.bdd)), fun he => by have := Kd.N_lt NA.out _ he.symm; omega⟩ (Below.refl _ _) (Nat.le_refl _) (by simp) ?_; (case hd => rfl); (case hg => rfl); (case hr => first | (go_simp; done) | (go_simp; rfl)); (case hp => exact (Reps.c3 (k52_mkF _ _ (⟨4, 0, [a0_2]⟩ : S52) (Kd.R_reads' NB.out).2.1 (Kd.R_F NB.out)) (Reps.none _ _)))
          intro vC W1 hN hb hg_ hnew_
          clear hg_ hnew_
          have HD_ := Aside0.mk (HD.out.step' hb)
          have NA_ := Aside0.mk (Kd.N_below NA.out hb)
          have NB_ := Aside0.mk (Kd.N_lower hN HD.out.bel.size)
          clear HD NA NB
          have HD := HD_
          clear HD_
          have NA := NA_
          clear NA_
          have NB := NB_
          clear NB_
          clear hN hb
          refine hK.out _ _ ⟨HD.out.c0, HD.out.c1, HD.out.c2⟩ (fun hHeld => ?_)
          clear hK K
          refine norm_ (a' := ?_) ?_ ?_
          rotate_left
          · show Act.put _ (some 39) _ = _
            simp only [Act.put, List.setIfInBounds_toArray, List.set_cons_zero, List.set_cons_succ, i64_w, i32_w]
            rfl
          exact norm_ (by simp only [putAll, Act.put, List.setIfInBounds_toArray, List.set_cons_zero, List.set_cons_succ]) (hCont (vO, vA, vC, Ab, cb) _ ⟨hHeld, HD.out, NA.out, NB.out⟩)
        · skip
          refine Kd.N_lit_step k52 _ 52 ?hg (N' := 39) ?hd (xs := [(⟨4, 0, [a0_2]⟩ : S52)]) (inner := [.int .i64 4, .int .i64 0, .slice Ab ([a0_2] : List Int).length cb]) (ok := (fun k_ => k_ ≠ w3.heap.size ∧ some k_ ≠ vO.ownBlock)) (okp := (fun k_ => k_ ≠ w3.heap.size ∧ some k_ ≠ vO.ownBlock)) ?hr ?hp (fun _ hk => hk) ⟨(Nat.ne_of_gt (blk_lt HD.out.bdd)), fun he => by have := Kd.N_lt NA.out _ he.symm; omega⟩ (Below.refl _ _) (Nat.le_refl _) (by simp) ?_; (case hd => rfl); (case hg => rfl); (case hr => first | (go_simp; done) | (go_simp; rfl)); (case hp => exact (Reps.c3 (k52_mkF _ _ (⟨4, 0, [a0_2]⟩ : S52) (Kd.R_reads' NB.out).2.1 (Kd.R_F NB.out)) (Reps.none _ _)))
          intro vC W1 hN hb hg_ hnew_
          clear hg_ hnew_
          have HD_ := Aside0.mk (HD.out.step' hb)
          have NA_ := Aside0.mk (Kd.N_below NA.out hb)
          have NB_ := Aside0.mk (Kd.N_lower hN HD.out.bel.size)
          clear HD NA NB
          have HD := HD_
          clear HD_
          have NA := NA_
          clear NA_
          have NB := NB_
          clear NB_
          clear hN hb
          refine hK.out _ _ ⟨HD.out.c0, HD.out.c1, HD.out.c2⟩ (fun hHeld => ?_)
          clear hK K
          refine norm_ (a' := ?_) ?_ ?_
          rotate_left
          · show Act.put _ (some 39) _ = _
            simp only [Act.put, List.setIfInBounds_toArray, List.set_cons_zero, List.set_cons_succ, i64_w, i32_w]
            rfl
          refine one_ (i := 3) (N := some 34) #[true, true, true, true, true, true, true, true, true, false, false, false] rfl rfl (one_of HT_.out (by kernel_rfl)) (by decide) (fun K hK => ?_)
          refine Kd.N_append_rows_step k52 (w0 := w) w.heap.size (by rfl) (.tmp 31) (.tmp 33) 22 52 (.agg #[(.int .i64 0), (.int .i64 0), (.slice none 0 0)]) 40 rfl Try.underlying22 info52 rfl (by decide) (by omega) vO ([] : List S52) l0_1 _ _ _ (fun k_ => k_ ≠ w3.heap.size) (fun k_ => k_ < w.heap.size) rfl rfl NA.out (Kd.F_below HG.out HD.out.bel) (fun k_ hk => ⟨by have := HD.out.ge; omega, fun he => by have := Kd.N_base NA.out k_ he.symm; omega⟩) (fun k_ hk => by have := blk_lt HD.out.bdd; omega) HD.out.bel HD.out.bel.size (by simp; omega) ?_
          intro vA W1 hN hb hg hat
          have HD_ := Aside0.mk (HD.out.grown NA.out hg hb)
          have NA_ := Aside0.mk (hN)
          have NB_ := Aside0.mk (Kd.N_after NB.out hg hat)
          clear HD NA NB
          have HD := HD_
          clear HD_
          have NA := NA_
          clear NA_
          have NB := NB_
          clear NB_
          clear hN hb hg hat
          refine hK.out _ _ ⟨HD.out.c0, HD.out.c1, HD.out.c2⟩ (fun hHeld => ?_)
          clear hK K
          refine norm_ (a' := ?_) ?_ ?_
          rotate_left
          · show Act.put _ (some 34) _ = _
            simp only [Act.put, List.setIfInBounds_toArray, List.set_cons_zero, List.set_cons_succ, i64_w, i32_w]
            rfl
          exact norm_ (by simp only [putAll, Act.put, List.setIfInBounds_toArray, List.set_cons_zero, List.set_cons_succ]) (hCont (vO, vA, vC, Ab, cb) _ ⟨hHeld, HD.out, NA.out, NB.out⟩)
      · skip
        refine Kd.N_lit_step k52 _ 52 ?hg (N' := 39) ?hd (xs := [(⟨4, 0, [a0_2]⟩ : S52)]) (inner := [.int .i64 4, .int .i64 0, .slice Ab ([a0_2] : List Int).length cb]) (ok := (fun k_ => k_ ≠ w3.heap.size)) (okp := (fun k_ => k_ ≠ w3.heap.size)) ?hr ?hp (fun _ hk => hk) (Nat.ne_of_gt (blk_lt HD.out.bdd)) (Below.refl _ _) (Nat.le_refl _) (by simp) ?_; (case hd => rfl); (case hg => rfl); (case hr => first | (go_simp; done) | (go_simp; rfl)); (case hp => exact (Reps.c3 (k52_mkF _ _ (⟨4, 0, [a0_2]⟩ : S52) (Kd.R_reads' NB.out).2.1 (Kd.R_F NB.out)) (Reps.none _ _)))
        intro vC W1 hN hb hg_ hnew_
        clear hg_ hnew_
        have HD_ := Aside0.mk (HD.out.step' hb)
        have NB_ := Aside0.mk (Kd.N_lower hN HD.out.bel.size)
        clear HD NB
        have HD := HD_
        clear HD_
        have NB := NB_
        clear NB_
        clear hN hb
        refine hK.out _ _ ⟨HD.out.c0, HD.out.c1, HD.out.c2⟩ (fun hHeld => ?_)
        clear hK K
        refine norm_ (a' := ?_) ?_ ?_
        rotate_left
        · show Act.put _ (some 39) _ = _
          simp only [Act.put, List.setIfInBounds_toArray, List.set_cons_zero, List.set_cons_succ, i64_w, i32_w]
          rfl
        refine one_ (i := 0) (N := some 31) #[true, true, true, false, true, true, true, true, true, false, false, false] rfl rfl (one_of HT_.out (by kernel_rfl)) (by decide) (fun K hK => ?_)
        refine Kd.N_lit_step k52 _ 52 ?hg (N' := 31) ?hd (xs := ([] : List S52)) (inner := []) (ok := fun k_ => k_ ≠ w3.heap.size) (okp := fun k_ => k_ ≠ w3.heap.size) ?hr ?hp (fun _ hk => hk) (Nat.ne_of_gt (blk_lt HD.out.bdd)) (Below.refl _ _) (Nat.le_refl _) (by simp) ?_; (case hd => rfl); (case hg => rfl); (case hr => first | (go_simp; done) | (go_simp; rfl)); (case hp => exact (Reps.none _ _))
        intro vO W1 hN hb hg_ hnew_
        clear hg_ hnew_
        have HD_ := Aside0.mk (HD.out.step' hb)
        have NA_ := Aside0.mk (Kd.N_lower hN HD.out.bel.size)
        have NB_ := Aside0.mk (Kd.N_elder' NB.out (Kd.N_base hN) hb)
        clear HD NB
        have HD := HD_
        clear HD_
        have NA := NA_
        clear NA_
        have NB := NB_
        clear NB_
        clear hN hb
        refine hK.out _ _ ⟨HD.out.c0, HD.out.c1, HD.out.c2⟩ (fun hHeld => ?_)
        clear hK K
        refine norm_ (a' := ?_) ?_ ?_
        rotate_left
        · show Act.put _ (some 31) _ = _
          simp only [Act.put, List.setIfInBounds_toArray, List.set_cons_zero, List.set_cons_succ, i64_w, i32_w]
          rfl
        refine one_ (i := 3) (N := some 34) #[true, true, true, true, true, true, true, true, true, false, false, false] rfl rfl (one_of HT_.out (by kernel_rfl)) (by decide) (fun K hK => ?_)
        refine Kd.N_append_rows_step k52 (w0 := w) w.heap.size (by rfl) (.tmp 31) (.tmp 33) 22 52 (.agg #[(.int .i64 0), (.int .i64 0), (.slice none 0 0)]) 40 rfl Try.underlying22 info52 rfl (by decide) (by omega) vO ([] : List S52) l0_1 _ _ _ (fun k_ => k_ ≠ w3.heap.size) (fun k_ => k_ < w.heap.size) rfl rfl NA.out (Kd.F_below HG.out HD.out.bel) (fun k_ hk => ⟨by have := HD.out.ge; omega, fun he => by have := Kd.N_base NA.out k_ he.symm; omega⟩) (fun k_ hk => by have := blk_lt HD.out.bdd; omega) HD.out.bel HD.out.bel.size (by simp; omega) ?_
        intro vA W1 hN hb hg hat
        have HD_ := Aside0.mk (HD.out.grown NA.out hg hb)
        have NA_ := Aside0.mk (hN)
        have NB_ := Aside0.mk (Kd.N_after NB.out hg hat)
        clear HD NA NB
        have HD := HD_
        clear HD_
        have NA := NA_
        clear NA_
        have NB := NB_
        clear NB_
        clear hN hb hg hat
        refine hK.out _ _ ⟨HD.out.c0, HD.out.c1, HD.out.c2⟩ (fun hHeld => ?_)
        clear hK K
        refine norm_ (a' := ?_) ?_ ?_
        rotate_left
        · show Act.put _ (some 34) _ = _
          simp only [Act.put, List.setIfInBounds_toArray, List.set_cons_zero, List.set_cons_succ, i64_w, i32_w]
          rfl
        exact norm_ (by simp only [putAll, Act.put, List.setIfInBounds_toArray, List.set_cons_zero, List.set_cons_succ]) (hCont (vO, vA, vC, Ab, cb) _ ⟨hHeld, HD.out, NA.out, NB.out⟩)
  rintro ⟨vO, vA, vB, Ab, cb⟩ W7 ⟨hHeld, hD7, hA7, hB7⟩
  dsimp only at hA7 hB7
  obtain ⟨Ae, ce, rfl⟩ := Kd.N_slice hB7
  clear HD
  have HD := Aside0.mk hD7
  have NA := Aside0.mk hA7
  have NB := Aside0.mk hB7
  clear hD7 hA7 hB7
  refine norm_ (a' := ?_) ?_ ?_
  rotate_left
  · simp only [putAll, Act.put, List.setIfInBounds_toArray, List.set_cons_zero, List.set_cons_succ]
    rfl
  refine one_ (i := 9) (N := some 40) #[true, true, true, true, true, true, true, true, true, true, false, false] rfl rfl (one_of HT_.out (by kernel_rfl)) (by decide) (fun K hK => ?_)
  refine Kd.N_append_rows_step k52 (w0 := w) w.heap.size (by rfl) (.tmp 34) (.tmp 39) 22 52 (.agg #[(.int .i64 0), (.int .i64 0), (.slice none 0 0)]) 40 rfl Try.underlying22 info52 rfl (by decide) (by omega) vA l0_1 [(⟨4, 0, [a0_2]⟩ : S52)] _ _ _ (fun k_ => k_ ≠ w3.heap.size) (fun k_ => k_ ≠ w3.heap.size ∧ some k_ ≠ vA.ownBlock) rfl rfl NA.out (Kd.N_F NB.out) (fun _ hk => hk) (fun k_ hk => by have := blk_lt HD.out.bdd; omega) HD.out.bel HD.out.bel.size (by simp; omega) ?_
  intro v40 W8 hN hb hg hat
  have HD_ := Aside0.mk (HD.out.grown NA.out hg hb)
  have NA_ := Aside0.mk (hN)
  clear HD NA
  have HD := HD_
  clear HD_
  have NA := NA_
  clear NA_
  clear hN hb hg hat NB
  refine hK.out _ _ ⟨HD.out.c0, HD.out.c1, HD.out.c2⟩ (fun hHeld => ?_)
  clear hK K
  refine norm_ (a' := ?_) ?_ ?_
  rotate_left
  · show Act.put _ (some 40) _ = _
    simp only [Act.put, List.setIfInBounds_toArray, List.set_cons_zero, List.set_cons_succ, i64_w, i32_w]
    rfl
  refine pure_ (i := 10) (N := some 41) (v := ?_) (a' := ?_) #[true, true, true, true, true, true, true, true, true, true, true, false] rfl rfl (any_of HT_.out (by kernel_rfl)) (fun _ _ _ h => h) (Or.inl ⟨by rfl, ?_⟩) ?_ ?_
  rotate_left
  · intro w'
    go_simp
    with_reducible rfl
  rotate_left
  · simp only [Act.put, List.setIfInBounds_toArray, List.set_cons_zero, List.set_cons_succ, i64_w, i32_w]
    rfl
  have y1 : W8.cell? ⟨w3.heap.size, 1, none⟩ = some (.slice A0_1 l0_1.length c0_1) := (blk_cell HD.out.bdd 1).trans rfl
  have y2 := blk_frozen HD.out.bdd 1
  obtain ⟨gd, hgd⟩ : ∃ gd : List S52, l0_1 ++ [(⟨4, 0, [a0_2]⟩ : S52)] = gd := ⟨_, rfl⟩
  rw [hgd] at NA
  obtain ⟨Ad, cd, rfl⟩ := Kd.N_slice NA.out
  refine one_ (i := 11) (N := none) #[true, true, true, true, true, true, true, true, true, true, true, true] rfl rfl (one_of HT_.out (by kernel_rfl)) (by decide) (fun K hK => ?_)
  refine skip_ (w1 := ?_) (by rfl) rfl ?_ ?_
  rotate_left
  · go_simp
    rfl
  clear y1 y2
  have HD_ := Aside0.mk (HD.out.put (q' := #[.int .i64 a0_0, .slice Ad gd.length cd, .int .i64 a0_2]) 1 (.slice Ad gd.length cd) rfl)
  have NA_ := Aside0.mk (Kd.N_far (p := ⟨w3.heap.size, 1, none⟩) NA.out (fun _ hk => hk) (.slice Ad gd.length cd))
  clear HD NA
  have HD := HD_
  clear HD_
  have NA := NA_
  clear NA_
  refine hK.out _ _ ⟨HD.out.c0, HD.out.c1, HD.out.c2⟩ (fun hHeld => ?_)
  clear hK K
  refine done_ (done_of HT_.out (by kernel_rfl)) ?_
  have hcm := HCM.out
  rw [hgd] at hcm
  have HGD := Aside0.mk hgd
  clear HCM hgd HT_ hHeld
  generalize W8.setCell ⟨w3.heap.size, 1, none⟩ (.slice Ad gd.length cd) = W9 at HD NA ⊢
  have y1 := HD.out.c1
  have y2 : W9.cell? ⟨w3.heap.size, 2, none⟩ = some (.int .i64 a0_2) := (blk_cell HD.out.bdd 2).trans rfl
  have y3 := blk_frozen HD.out.bdd 2
  go_upto_region 8 with (fail)
  have HD1 := Aside0.mk (HD.out.put (q' := #[.int .i64 a0_0, .slice Ad gd.length cd, .int .i64 (l0_1.length : Int)]) 2 (.int .i64 (l0_1.length : Int)) rfl)
  have NA1 := Aside0.mk (Kd.N_far (p := ⟨w3.heap.size, 2, none⟩) NA.out (fun _ hk => hk) (.int .i64 (l0_1.length : Int)))
  clear HD NA y1 y2 y3
  generalize W9.setCell ⟨w3.heap.size, 2, none⟩ (.int .i64 (l0_1.length : Int)) = W10 at HD1 NA1 ⊢
  have a25d := fun (W : World) (hN : Kd.N k52 52 W w.heap.size (fun k_ => k_ ≠ w3.heap.size) (.slice Ad gd.length cd) gd) => sat_Count.calls k a0_0 Ad cd gd (l0_1.length : Int) cm 0 W (Kd.N_reads' hN).2.2 (Kd.N_reads' hN).2.1 hcm
  have y0 := HD1.out.c0
  have y1 := HD1.out.c1
  have y2 := HD1.out.c2
  go_upto_region 10 with (first | (go_at_call 25; refine (a25 _ HD1.out.bel).mono ?_; rintro e W11 ⟨rfl, hb⟩; have HD2 := Aside0.mk (HD1.out.step' hb); have NA2 := Aside0.mk (Kd.N_below NA1.out hb); clear hb a25 y0 y1 y2; have y0 : W11.cell? ⟨w3.heap.size, 0, none⟩ = some (.int .i64 a0_0) := (blk_cell HD2.out.bdd 0).trans rfl; have y1 : W11.cell? ⟨w3.heap.size, 1, none⟩ = some (.slice Ad gd.length cd) := (blk_cell HD2.out.bdd 1).trans rfl; have y2 : W11.cell? ⟨w3.heap.size, 2, none⟩ = some (.int .i64 (l0_1.length : Int)) := (blk_cell HD2.out.bdd 2).trans rfl) | (go_at_call 25; refine (a25d _ NA2.out).mono ?_; rintro e W12 ⟨rfl, hb⟩; have HD3 := Aside0.mk (HD2.out.step' hb); clear hb a25d y0 y1 y2))
  have y0 := HD3.out.c0
  have y1 := HD3.out.c1
  have y2 := HD3.out.c2
  have hs2 : wrap64 (cn + cm) = wrap64 (2 ^ a0_0.toNat) := by
    rw [HSUM.out]
    unfold shl
    have hb : IntKind.i64.bits = 64 := rfl
    rw [hb, Nat.min_eq_left (by omega), Int.one_mul, i64_w]
  go_upto_region 12 with (fail)
  clear hs2 y0 y1 y2
  go_upto_region 14 with (fail)
  have hL : ((W12.alloc (.cells #[.int .i64 (-1)] 3)).alloc (.cells #[.int .i64 0] 3)).heap[W12.heap.size]? = some (.cells #[.int .i64 (-1)] 3 (0, 0)) := blk_alloc (heap_alloc_new _ _) _
  have hN : ((W12.alloc (.cells #[.int .i64 (-1)] 3)).alloc (.cells #[.int .i64 0] 3)).heap[W12.heap.size + 1]? = some (.cells #[.int .i64 0] 3 (0, 0)) := by
    have h := heap_alloc_new (W12.alloc (.cells #[.int .i64 (-1)] 3)) (.cells #[.int .i64 0] 3)
    simp only [World.size_alloc] at h
    exact h
  have hX4 := HD3.out.toAtS.step (below_alloc (below_alloc (Below.refl _ _) (.cells #[.int .i64 (-1)] 3)) (.cells #[.int .i64 0] 3))
  generalize (W12.alloc (.cells #[.int .i64 (-1)] 3)).alloc (.cells #[.int .i64 0] 3) = W13 at hL hN hX4 ⊢
  have HL := Aside0.mk hL
  have HN := Aside0.mk hN
  have HX4 := Aside0.mk hX4
  have hbw : w.heap.size + 1 < W12.heap.size := blk_lt HD3.out.br
  obtain ⟨bl, hbl⟩ : ∃ bl, W12.heap.size = bl := ⟨_, rfl⟩
  rw [hbl] at HL HN hbw
  simp only [hbl]
  clear hL hN hX4 HD3 NA2 HD2 NA1 HD1 hbl
  have hbl13 : bl + 1 < W13.heap.size := blk_lt HN.out
  have y0 := HX4.out.c0
  have y1 := HX4.out.c1
  have y2 := HX4.out.c2
  go_wp2_with (go_at_call 26; refine (All_any a0_0 A0_1 c0_1 l0_1 a0_2 _).mono ?_; rintro e' w5 ⟨cb, rfl, hcb, hcc, hb5⟩; have HX5 := Aside0.mk (HX4.out.step hb5); have HCC := Aside0.mk hcc; have HL5 := Aside0.mk (blk_below HL.out hb5); have HN5 := Aside0.mk (blk_below HN.out hb5); have HCB := Aside0.mk hcb; have HS5 := Aside0.mk hb5.size; clear hb5 hcc hcb y0 y1 y2)
  have hcb : W13.heap.size ≤ cb := HCB.out
  have hw5 : cb < w5.heap.size := blk_lt HCC.out
  refine wp_rangeFunc_iter1 (gf := 41) (lb := #[.pointer (some ⟨cb, 0, none⟩)]) (Rel := relB w.heap.size) (Z := fun k => k = cb ∨ k < w.heap.size) (w0 := w5) (xs := xs) rfl (enters_of Try.func41 (by kernel_rfl) rfl)
    (all1_iter k cb w.heap.size a0_0 a0_2 A0_1 c0_1 l0_1 w5 HCC.out (Kd.F_below HG.out HX5.out.bel) HC.out (by omega) xs HXS.out) (Below.refl _ _) (relB_put _)
    (fun Y pre W => Y bl ∧ Y (bl + 1) ∧ (∀ i, Y i → i = bl ∨ i = bl + 1) ∧ KeepS (fun i => i < w5.heap.size ∧ i ≠ bl ∧ i ≠ bl + 1) w5 W ∧ W.heap[bl]? = some (.cells #[.int .i64 (lastN pre (-1))] 3 (0, 0)) ∧ W.heap[bl + 1]? = some (.cells #[.int .i64 (pre.length : Int)] 3 (0, 0)))
    (fun c Y pre W => False)
    (fun Y pre A B h hk => ⟨h.1, h.2.1, h.2.2.1, h.2.2.2.1.trans (hk.mono (fun i _ hi => .inl hi.1)), hk.blk h.2.2.2.2.1 (.inl (by omega)), hk.blk h.2.2.2.2.2 (.inl (by omega))⟩) (fun c Y pre A B h hk => h.elim)
    (fun i => i = bl ∨ i = bl + 1) ?Y0 ?hZ ⟨.inl rfl, .inr rfl, fun _ h => h, KeepS.refl _ _, HL5.out, HN5.out⟩ ?asg ?assign ?body ?done ?stop
  case assign =>
    intro l v A K hK
    refine wpIn_region_of (r := some l) (by intro a w h; exact h) (by simp) ?_
    go_wp2
    exact hK
  case Y0 => rintro i (rfl | rfl) <;> exact ⟨by omega, fun h => h.elim (fun h => by omega) (fun h => by omega)⟩
  case hZ => exact fun i hk h => h.elim (fun h => by omega) (fun h => by omega)
  case body =>
    rintro l m Y pre x vx S A hpre ⟨hyl, hyc, hy0, hkw, hlb, hcb2⟩ hrel hl hlm hm hY hS
    obtain ⟨t, htx⟩ := hpre
    have hsp := HQ2.out.1
    rw [← htx, List.append_assoc, List.singleton_append] at hsp
    obtain ⟨hev, hlt⟩ := allSp_at pre hsp
    have hrel' : Kd.R Kd.bool 4 A w.heap.size S vx x := hrel
    obtain ⟨Av, cv, rfl, hcv, hCv⟩ := Kd.R_reads hrel'
    have HKW := Aside0.mk hkw
    have HCV := Aside0.mk hCv
    have HLB := Aside0.mk hlb
    have HCB2 := Aside0.mk hcb2
    have HLT := Aside0.mk hlt
    have hGA := Kd.F_below HG.out (HX5.out.bel.trans (hkw.below (by omega) (fun i hi => ⟨by omega, by omega, by omega⟩)))
    have a15 := fun (W : World) (hW : Below A.heap.size A W) => sat_Eval.calls k a0_0 A0_1 c0_1 l0_1 a0_2 Av cv x true 0 W (Kd.F_now (Kd.F_below hGA hW)) HC.out (Kd.C_below hCv hW) hcv hev
    have hbx := hkw.blk HX5.out.box (show w.heap.size < w5.heap.size ∧ w.heap.size ≠ bl ∧ w.heap.size ≠ bl + 1 from ⟨by omega, by omega, by omega⟩)
    have HBX := Aside0.mk hbx
    have hpl : pre.length < xs.length := by rw [← htx]; simp
    have hpl' : pre.length < 65536 := by have := HQ2.out.2.2; omega
    have hxl : x.length ≤ 9223372036854775807 := hCv.2.1
    clear hrel hrel' htx hsp hCv hkw hlb hcb2 hev hlt hGA hbx hpl
    refine wpIn_block ?_
    refine wpIn_seq ?_
    refine wpIn_region_of (r := some l) (by rintro a w ⟨Y', h1, h2, h3, h⟩; exact h) (by simp) ?_
    go_wp2
    refine wpIn_seq ?_
    refine wpIn_seq ?_
    refine wpIn_region_of (r := some l) (by rintro a w ⟨Y', h1, h2, h3, h⟩; exact h) (by simp) ?_
    go_wp2
    refine wpIn_block ?_
    generalize ha0 : ({ tmps := _, defers := _ } : Act) = a0
    refine wpIn_loop (fun a' W' => W' = A ∧ ∃ (j : Nat) (n : Int) (v13 v77 v78 v79 v80 v81 v82 v83 v84 v85 : Value), j ≤ x.length ∧ numB (x.drop j) n = numB x 0 ∧ a' = putAll a0 [(76, .int .i64 (j : Int)), (11, .int .i64 n), (13, v13), (77, v77), (78, v78), (79, v79), (80, v80), (81, v81), (82, v82), (83, v83), (84, v84), (85, v85)])
      (fun a' _ => x.length - (intOf (a'.tmps.getD 76 undef)).toNat) ?_ ?_
    · refine ⟨rfl, 0, 0, undef, undef, undef, undef, undef, undef, undef, undef, undef, undef, Nat.zero_le _, rfl, ?_⟩
      rw [← ha0]
      simp only [putAll, Act.put, List.setIfInBounds_toArray, List.set_cons_zero, List.set_cons_succ]
      rfl
    rintro a1 W1 ⟨rfl, j, n, v13, v77, v78, v79, v80, v81, v82, v83, v84, v85, hj, hnum, rfl⟩
    have HNUM := Aside0.mk hnum
    clear hnum
    refine wpIn_act (a' := ?_) ?_ ?_
    rotate_left
    · refine (congrArg (fun a_ => putAll a_ _) ha0.symm).trans ?_
      simp only [putAll, Act.put, List.setIfInBounds_toArray, List.set_cons_zero, List.set_cons_succ]
      rfl
    refine wpIn_seq ?_
    refine wpIn_region_hid (r := some l) (by rintro a w ⟨Y', h1, h2, h3, h⟩; exact h) (by simp) ?_
    intro Q1 hQ1
    by_cases hjx : j < x.length
    · have hji : (j : Int) < (x.length : Int) := by omega
      have HQ1 := Aside0.mk hQ1
      clear hQ1
      go_wp2
      refine HQ1.out _ _ _ ?_
      refine wpIn_seq ?_
      refine wpIn_cond_true rfl ?_
      refine wpIn_skip ?_
      refine wpIn_seq ?_
      refine wpIn_block ?_
      refine wpIn_seq ?_
      refine wpIn_region_hid (r := some l) (by rintro a w ⟨Y', h1, h2, h3, h⟩; exact h) (by simp) ?_
      intro Q2 hQ2
      have HQ2' := Aside0.mk hQ2
      obtain ⟨adx, ex, hcx⟩ := Kd.at_bool HCV.out (j : Int) (Int.natCast_nonneg _) hji
      subst ex
      have hdr := dropB hjx
      obtain ⟨bx, hbx⟩ : ∃ bx, rdOf false x (j : Int) = bx := ⟨_, rfl⟩
      rw [hbx] at hcx hdr
      have hnum := HNUM.out
      rw [hdr, numB] at hnum
      have HNUM2 := Aside0.mk hnum
      rw [Int.toNat_natCast] at hcx
      have hj0 : (0 : Int) ≤ (j : Int) := Int.natCast_nonneg _
      clear hbx hdr hQ2 hnum HNUM
      go_wp2
      refine HQ2'.out _ _ _ ?_
      refine wpIn_seq ?_
      refine wpIn_region_hid (r := some l) (by rintro a w ⟨Y', h1, h2, h3, h⟩; exact h) (by simp) ?_
      intro Q3 hQ3
      have HQ3 := Aside0.mk hQ3
      clear hQ3
      go_wp2
      refine HQ3.out _ _ _ ?_
      refine wpIn_seq ?_
      refine wpIn_region_hid (r := some l) (by rintro a w ⟨Y', h1, h2, h3, h⟩; exact h) (by simp) ?_
      intro Q4 hQ4
      have HQ4 := Aside0.mk hQ4
      clear hQ4
      go_wp2
      refine HQ4.out _ _ _ ?_
      cases bx with
      | true =>
        refine wpIn_cond_true rfl ?_
        refine wpIn_region_hid (r := some l) (by rintro a w ⟨Y', h1, h2, h3, h⟩; exact h) (by simp) ?_
        intro Q5 hQ5
        have HQ5 := Aside0.mk hQ5
        clear hQ5
        go_wp2
        refine HQ5.out _ _ _ ?_
        change Code.wpIn _ _ _ _ _ _ _
        refine wpIn_region_hid (r := some l) (by rintro a w ⟨Y', h1, h2, h3, h⟩; exact h) (by simp) ?_
        intro Q6 hQ6
        have HQ6 := Aside0.mk hQ6
        clear hQ6
        go_wp2
        refine HQ6.out _ _ _ ?_
        refine ⟨⟨rfl, j + 1, wrap64 (wrap64 (2 * n) + 1), .bool true, ?v77, ?v78, ?v79, ?v80, ?v81, ?v82, ?v83, ?v84, ?v85, by omega, HNUM2.out, ?act⟩, ?mu⟩
        case act =>
          refine Eq.symm ((congrArg (fun a_ => putAll a_ _) ha0.symm).trans ?_)
          simp only [putAll, Act.put, List.setIfInBounds_toArray, List.set_cons_zero, List.set_cons_succ]
          rfl
        case mu =>
          refine mu_lt (u := _) (v := _) ?_ ?_ hjx
          · dsimp only
            rw [getD_list]
            rfl
          · rw [← ha0]
            simp only [putAll, Act.put, List.setIfInBounds_toArray, List.set_cons_zero, List.set_cons_succ]
            rw [getD_list]
            rfl
      | false =>
        refine wpIn_cond_false rfl ?_
        refine wpIn_skip ?_
        change Code.wpIn _ _ _ _ _ _ _
        refine wpIn_region_hid (r := some l) (by rintro a w ⟨Y', h1, h2, h3, h⟩; exact h) (by simp) ?_
        intro Q6 hQ6
        have HQ6 := Aside0.mk hQ6
        clear hQ6
        go_wp2
        refine HQ6.out _ _ _ ?_
        refine ⟨⟨rfl, j + 1, wrap64 (2 * n), .bool false, ?u77, ?u78, ?u79, ?u80, ?u81, ?u82, ?u83, ?u84, ?u85, by omega, HNUM2.out, ?act⟩, ?mu⟩
        case act =>
          refine Eq.symm ((congrArg (fun a_ => putAll a_ _) ha0.symm).trans ?_)
          simp only [putAll, Act.put, List.setIfInBounds_toArray, List.set_cons_zero, List.set_cons_succ]
          rfl
        case mu =>
          refine mu_lt (u := _) (v := _) ?_ ?_ hjx
          · dsimp only
            rw [getD_list]
            rfl
          · rw [← ha0]
            simp only [putAll, Act.put, List.setIfInBounds_toArray, List.set_cons_zero, List.set_cons_succ]
            rw [getD_list]
            rfl
    · have hji : ¬ (j : Int) < (x.length : Int) := by omega
      obtain rfl : j = x.length := (by omega)
      have hn := HNUM.out
      rw [List.drop_length, numB] at hn
      subst hn
      have HQ1 := Aside0.mk hQ1
      clear hQ1 HNUM
      go_wp2
      refine HQ1.out _ _ _ ?_
      refine wpIn_seq ?_
      refine wpIn_cond_false rfl ?_
      refine wpIn_exit ?_
      change Code.wpIn _ _ _ _ _ _ _
      refine wpIn_seq ?_
      refine wpIn_region_hid (r := some l) (by rintro a w ⟨Y', h1, h2, h3, h⟩; exact h) (by simp) ?_
      intro Q7 hQ7
      have HQ7 := Aside0.mk hQ7
      have y0 : W1.cell? ⟨w.heap.size, 0, none⟩ = some (.int .i64 a0_0) := (blk_cell HBX.out 0).trans rfl
      have y1 : W1.cell? ⟨w.heap.size, 1, none⟩ = some (.slice A0_1 l0_1.length c0_1) := (blk_cell HBX.out 1).trans rfl
      have y2 : W1.cell? ⟨w.heap.size, 2, none⟩ = some (.int .i64 a0_2) := (blk_cell HBX.out 2).trans rfl
      clear hQ7
      go_wp2_with (go_at_call 15; refine (a15 _ (Below.refl _ _)).mono ?_; rintro e' W2 ⟨rfl, hb2⟩; have HB2 := Aside0.mk hb2; clear hb2 a15 y0 y1 y2)
      refine HQ7.out _ _ _ ?_
      have hlb2 := blk_below HLB.out HB2.out
      have hcb2 := blk_below HCB2.out HB2.out
      have HLB2 := Aside0.mk hlb2
      have HCB3 := Aside0.mk hcb2
      have y3 : W2.cell? ⟨bl, 0, none⟩ = some (.int .i64 (lastN pre (-1))) := (blk_cell hlb2 0).trans rfl
      have hlt := HLT.out
      obtain ⟨lv, hlv⟩ : ∃ lv, lastN pre (-1) = lv := ⟨_, rfl⟩
      obtain ⟨nv, hnv⟩ : ∃ nv, numB x 0 = nv := ⟨_, rfl⟩
      rw [hlv] at y3
      rw [hlv, hnv] at hlt
      have hnle : ¬ nv ≤ lv := by omega
      have hnle' : decide (nv ≤ lv) = false := decide_eq_false hnle
      have HLV := Aside0.mk hlv
      have HNV := Aside0.mk hnv
      clear hlb2 hcb2 hlv hlt HLT
      simp only [hnv]
      clear hnv
      refine wpIn_seq ?_
      refine wpIn_seq ?_
      refine wpIn_region_hid (r := some l) (by rintro a w ⟨Y', h1, h2, h3, h⟩; exact h) (by simp) ?_
      intro Q8 hQ8
      have HQ8 := Aside0.mk hQ8
      clear hQ8
      go_wp2
      refine HQ8.out _ _ _ ?_
      change Code.wpIn _ _ _ _ _ _ _
      refine wpIn_cond_false rfl ?_
      refine wpIn_skip ?_
      change Code.wpIn _ _ _ _ _ _ _
      refine wpIn_seq ?_
      have y4 := blk_frozen HLB2.out 0
      refine wpIn_region_hid (r := some l) (by rintro a w ⟨Y', h1, h2, h3, h⟩; exact h) (by simp) ?_
      intro Q9 hQ9
      have HQ9 := Aside0.mk hQ9
      clear hQ9
      go_wp2
      refine HQ9.out _ _ _ ?_
      clear y3 y4
      have hn3 := blk_far HCB3.out (p := ⟨bl, 0, none⟩) (by show bl + 1 ≠ bl; omega) (.int .i64 nv)
      have HN3 := Aside0.mk hn3
      have y3 : (W2.setCell ⟨bl, 0, none⟩ (.int .i64 nv)).cell? ⟨bl + 1, 0, none⟩ = some (.int .i64 (pre.length : Int)) := (blk_cell hn3 0).trans rfl
      have y4 := blk_frozen hn3 0
      have hl3 := blk_put HLB2.out 0 (.int .i64 nv) rfl
      have HL3 := Aside0.mk hl3
      have HK3 := Aside0.mk ((KeepS.of_below HB2.out (S := fun i => i < W1.heap.size ∧ i ≠ bl ∧ i ≠ bl + 1) (fun i hi hs => hs.1)).trans (KeepS.set_ W2 ⟨bl, 0, none⟩ (.int .i64 nv) (fun h => h.2.1 rfl)))
      have hs2 := HB2.out.size
      clear hn3 hl3
      generalize W2.setCell ⟨bl, 0, none⟩ (.int .i64 nv) = W3 at y3 y4 HN3 HL3 HK3 ⊢
      change Code.wpIn _ _ _ _ _ _ _
      refine wpIn_region_hid (r := some l) (by rintro a w ⟨Y', h1, h2, h3, h⟩; exact h) (by simp) ?_
      intro Q10 hQ10
      have HQ10 := Aside0.mk hQ10
      clear hQ10
      go_wp2
      refine HQ10.out _ _ _ ?_
      have hk4 := HK3.out.trans (KeepS.set_ W3 ⟨bl + 1, 0, none⟩ (.int .i64 ((pre.length : Int) + 1)) (S := fun i => i < W1.heap.size ∧ i ≠ bl ∧ i ≠ bl + 1) (fun h => h.2.2 rfl))
      have hnl := blk_put HN3.out 0 (.int .i64 ((pre.length : Int) + 1)) rfl
      have hll := blk_far HL3.out (p := ⟨bl + 1, 0, none⟩) (by show bl ≠ bl + 1; omega) (.int .i64 ((pre.length : Int) + 1))
      have hsz := hk4.size
      refine ⟨Y, fun i hi => .inl hi, fun i hi => by have := (hY i hi).1; omega, hk4.mono (fun i _ hs => ⟨by omega, fun e => hs.2.1 (e ▸ hyl), fun e => hs.2.1 (e ▸ hyc)⟩), hyl, hyc, hy0, HKW.out.trans (hk4.mono (fun i hi hs => ⟨by omega, hs.2⟩)), ?_, ?_⟩
      · rw [lastN_snoc, HNV.out]
        exact hll
      · rw [List.length_append, List.length_singleton]
        exact hnl
  case done =>
    rintro D Y W hD ⟨hyl, hyc, hy0, hkw, hlb, hcb2⟩ hK
    have hbr := hkw.blk HX5.out.br ⟨by omega, by omega, by omega⟩
    have xc : W.cell? ⟨bl + 1, 0, none⟩ = some (.int .i64 (xs.length : Int)) := (blk_cell hcb2 0).trans rfl
    have xr0 : W.cell? ⟨w.heap.size + 1, 0, none⟩ = some (.bool false) := (blk_cell hbr 0).trans rfl
    have xr1 := blk_frozen hbr 0
    have hcn := HQ2.out.2.1
    rw [hcn] at xc
    have HK := Aside0.mk hK
    have HBW := Aside0.mk (HX5.out.bel.trans (hkw.below (by omega) (fun i hi => ⟨by omega, by omega, by omega⟩)))
    have HRB := Aside0.mk hbr
    clear hkw hlb hcb2 hK hbr hcn
    have hcc : (cn == cn) = true := by simp
    go_wp2
    have hK2 : (W.setCell ⟨w.heap.size + 1, 0, none⟩ (.bool true)).heap[D]? = some (.deferred (some [])) := (Below.heap_setCell _ _ _ _ (show D ≠ w.heap.size + 1 by omega)).trans HK.out
    have q1 : ((W.setCell ⟨w.heap.size + 1, 0, none⟩ (.bool true)).putObj D (.deferred none)).cell? ⟨w.heap.size + 1, 0, none⟩ = some (.bool true) := (blk_cell ((World.putObj_heap_other (by omega)).trans (blk_put HRB.out 0 (.bool true) rfl)) 0).trans rfl
    exact leavesM_mark hK2 (leavesM_nil (v := .bool true) (by simp [results, Try.results10, go_sem, q1]) ⟨rfl, below_putObj (HBW.out.setCell (p := ⟨w.heap.size + 1, 0, none⟩) (Nat.le_add_right _ _) _) (by omega) _⟩)
  case stop =>
    rintro D c Y pre W hD hpre h hK
    exact h.elim

/-- THE ONE PURE STATEMENT of pentaglotlaw28_SatSplits. -/
def pentaglotlaw28_SatSplits.Pure : Prop := ∀ (p0 : S24), wf24 p0 → ∃ k, pentaglotlaw28_SatSplits.f k p0.f0 p0.f1 p0.f2 = some true

end Go.Proofs.Ytflknolnclnhfaa.P
