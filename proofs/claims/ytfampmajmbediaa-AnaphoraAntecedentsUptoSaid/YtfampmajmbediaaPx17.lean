-- Written by the session's own program wip/tools/xprint.py out of the translation, with the kit's print.py on a scratch copy; functions given by hand stand among them.
import Derived.Test.YtfampmajmbediaaPx0
import Derived.Test.YtfampmajmbediaaPx6
import Derived.Test.YtfampmajmbediaaPx7
import Derived.Test.YtfampmajmbediaaPx9
import Derived.Test.YtfampmajmbediaaPx13
import Derived.Test.YtfampmajmbediaaPx14
import Derived.Test.YtfampmajmbediaaPx15
import Derived.Test.YtfampmajmbediaaPx16
namespace Go.Proofs.Ytfampmajmbediaa.P
open Go.RowKit Go.Proofs.YtfampmajmbediaaW.PrintWords Go.Proofs.YtfampmajmbediaaW.PrintLast Go.Proofs.YtfampmajmbediaaW.PrintMore
attribute [local go_sem] max2_int min2_int max_two min_two max_three min_three max_four min_four   -- for this text's walks alone
set_option linter.unusedVariables false
set_option linter.unusedSimpArgs false

/-! ### pentaglotlaw46_awake: function 12, by hand -/
-- leans on 33 32 23 17 26 14 15 19 20 52
/-- A tree's value, with rows that stay. -/
def TF (w : World) (v : Value) (t : S27) : Prop := ∃ A1 c1 A2 c2, v = .agg #[.string t.f0, .slice A1 t.f1.length c1, .slice A2 t.f2.length c2] ∧ t.f1.length ≤ c1 ∧ t.f2.length ≤ c2 ∧ Kd.F (Kd.int .i64) w (fun _ => True) A1 t.f1.length t.f1 ∧ Kd.F k27 w (fun _ => True) A2 t.f2.length t.f2
def LF (w : World) (v : Value) (l : List S27) : Prop := ∃ A c, v = .slice A l.length c ∧ l.length ≤ c ∧ Kd.F k27 w (fun _ => True) A l.length l
theorem TF.below {w w' : World} {v : Value} {t : S27} (h : TF w v t) (hb : Below w.heap.size w w') : TF w' v t := by
 obtain ⟨A1, c1, A2, c2, e, l1, l2, f1, f2⟩ := h
 exact ⟨A1, c1, A2, c2, e, l1, l2, Kd.F_below f1 hb, Kd.F_below f2 hb⟩
theorem LF.below {w w' : World} {v : Value} {l : List S27} (h : LF w v l) (hb : Below w.heap.size w w') : LF w' v l := by
 obtain ⟨A, c, e, l1, f⟩ := h
 exact ⟨A, c, e, l1, Kd.F_below f hb⟩
theorem LF_N {w : World} {base : Nat} {ok : Nat → Prop} {v : Value} {l : List S27} (h : Kd.N k27 27 w base ok v l) : LF w v l := by
 obtain ⟨A, c, rfl, hl, hf⟩ := Kd.N_V (base' := 0) h
 exact ⟨A, c, rfl, hl, Kd.F_mono hf (fun _ _ => trivial)⟩
def awNm : S27 := ⟨⟨#[78, 97, 109, 101]⟩, [], [⟨⟨#[109, 97, 114, 116, 97]⟩, [], []⟩]⟩
def awE : S27 := ⟨⟨#[]⟩, [], []⟩
def awIt : S27 := ⟨⟨#[73, 116]⟩, [], []⟩
def awS (np : S27) (s : ByteArray) : S27 := ⟨⟨#[65, 115, 115, 101, 114, 116]⟩, [], [np, ⟨⟨#[65, 99, 116]⟩, [], [⟨s, [], []⟩]⟩]⟩
def awW : ByteArray := ⟨#[119, 97, 105, 116]⟩
def awZ : ByteArray := ⟨#[115, 108, 101, 101, 112]⟩
def awL : List S27 := [awS awNm awW, awS awNm awZ]
def awX1 : S27 := awS awIt awZ
def awX : List S27 := [awS awNm awW, awX1]
structure AwOk (k : Nat) : Prop where
 i : anaphora_Introduce.f k awL = some [awX]
 s : pentaglotref31_Same.f awX1.f0 awX1.f1 awX1.f2 awX1.f0 awX1.f1 awX1.f2 = some true
 r : anaphora_Resolve.f k awX = some (awL, 0)
 a : anaphora_Antecedent.f k awL 1 = some (awNm.f0, awNm.f1, awNm.f2, 0)
 b : anaphora_Antecedent.f k awL 0 = some (⟨#[]⟩, [], [], 10)
 x : anaphora_Expand.f k awX = some (awL, 0)
 l : pentaglotref31_SameAll.f awL awL = some true
 n : pentaglotref31_Same.f awNm.f0 awNm.f1 awNm.f2 awNm.f0 awNm.f1 awNm.f2 = some true
 p : anaphora_Pronouns.f k awX1.f0 awX1.f1 awX1.f2 = some 1
theorem awOk : AwOk 100 := ⟨by kernel_rfl, by kernel_rfl, by kernel_rfl, by kernel_rfl, by kernel_rfl, by kernel_rfl, by kernel_rfl, by kernel_rfl, by kernel_rfl⟩
theorem det_ {α : Type} {g : Nat → Option α} (hg : ∀ k, LeO (g k) (g (k + 1))) {k m : Nat} {a b : α} (h1 : g k = some a) (h2 : g m = some b) : a = b :=
 Option.some.inj ((at_rounds hg (Nat.le_max_left k m) h1).symm.trans (at_rounds hg (Nat.le_max_right k m) h2))
def pentaglotlaw46_awake.f (k : Nat) : Option Bool :=
 (anaphora_Introduce.f k awL).bind fun _ => (anaphora_Resolve.f k awX).bind fun _ => (anaphora_Antecedent.f k awL 1).bind fun _ => (anaphora_Antecedent.f k awL 0).bind fun _ => (anaphora_Expand.f k awX).bind fun _ => (anaphora_Pronouns.f k awX1.f0 awX1.f1 awX1.f2).bind fun _ => some true
theorem pentaglotlaw46_awake.mono (k : Nat) : LeO (pentaglotlaw46_awake.f k) (pentaglotlaw46_awake.f (k + 1)) :=
 LeO.bind (anaphora_Introduce.mono _ _) (fun _ => LeO.bind (anaphora_Resolve.mono _ _) (fun _ => LeO.bind (anaphora_Antecedent.mono _ _ _) (fun _ => LeO.bind (anaphora_Antecedent.mono _ _ _) (fun _ => LeO.bind (anaphora_Expand.mono _ _) (fun _ => LeO.bind (anaphora_Pronouns.mono _ _ _ _) (fun _ => LeO.refl _))))))
/-- Where it comes to an end, the examples come out. -/
theorem awake_ok {k : Nat} {r : Bool} (h : pentaglotlaw46_awake.f k = some r) : AwOk k ∧ r = true := by
 unfold pentaglotlaw46_awake.f at h
 obtain ⟨x1, h1, h⟩ := Option.bind_eq_some_iff.1 h
 obtain ⟨x2, h2, h⟩ := Option.bind_eq_some_iff.1 h
 obtain ⟨x3, h3, h⟩ := Option.bind_eq_some_iff.1 h
 obtain ⟨x4, h4, h⟩ := Option.bind_eq_some_iff.1 h
 obtain ⟨x5, h5, h⟩ := Option.bind_eq_some_iff.1 h
 obtain ⟨x6, h6, h⟩ := Option.bind_eq_some_iff.1 h
 have e1 := det_ (fun k => anaphora_Introduce.mono awL k) h1 awOk.i
 have e2 := det_ (fun k => anaphora_Resolve.mono awX k) h2 awOk.r
 have e3 := det_ (fun k => anaphora_Antecedent.mono awL 1 k) h3 awOk.a
 have e4 := det_ (fun k => anaphora_Antecedent.mono awL 0 k) h4 awOk.b
 have e5 := det_ (fun k => anaphora_Expand.mono awX k) h5 awOk.x
 have e6 := det_ (fun k => anaphora_Pronouns.mono awX1.f0 awX1.f1 awX1.f2 k) h6 awOk.p
 subst e1 e2 e3 e4 e5 e6
 exact ⟨⟨h1, awOk.s, h2, h3, h4, h5, awOk.l, awOk.n, h6⟩, (Option.some.inj h).symm⟩
theorem ev_awake : Ev (fun k => pentaglotlaw46_awake.f k) true := Ev.of (fun k => pentaglotlaw46_awake.mono k) (k := 100) (by
 unfold pentaglotlaw46_awake.f
 rw [awOk.i, awOk.r, awOk.a, awOk.b, awOk.x, awOk.p]
 rfl)
theorem aw_name (s : ByteArray) (w : World) : Calls Try.prog 33 #[.string s] w fun e w' => ∃ v, e = .returned v ∧ TF w' v ⟨⟨#[78, 97, 109, 101]⟩, [], [⟨s, [], []⟩]⟩ ∧ Below w.heap.size w w' := by
 refine (pentaglotlaw46_name.calls s _ _ _ w rfl).mono ?_
 rintro e w' ⟨v1, v2, rfl, h1, h2, hb⟩
 obtain ⟨A1, c1, rfl, l1, f1⟩ := Kd.R_V (base' := 0) h1
 obtain ⟨A2, c2, rfl, l2, f2⟩ := Kd.R_V (base' := 0) h2
 exact ⟨_, rfl, ⟨A1, c1, A2, c2, rfl, l1, l2, f1, Kd.F_mono f2 (fun _ _ => trivial)⟩, hb⟩
theorem aw_sent (np : S27) (s : ByteArray) (v : Value) (w : World) (h : TF w v np) : Calls Try.prog 32 #[v, .string s] w fun e w' => ∃ v', e = .returned v' ∧ TF w' v' (awS np s) ∧ Below w.heap.size w w' := by
 obtain ⟨n0, n1, n2⟩ := np
 obtain ⟨A1, c1, A2, c2, rfl, l1, l2, f1, f2⟩ := h
 refine (pentaglotlaw46_sentence.calls n0 (fun _ => True) A1 c1 n1 (fun _ => True) A2 c2 n2 s _ _ _ w (Kd.V_mk l1 f1) (Kd.V_mk l2 f2) rfl).mono ?_
 rintro e w' ⟨v1, v2, rfl, h1, h2, hb⟩
 obtain ⟨B1, d1, rfl, m1, g1⟩ := Kd.R_V (base' := 0) h1
 obtain ⟨B2, d2, rfl, m2, g2⟩ := Kd.N_V (base' := 0) h2
 exact ⟨_, rfl, ⟨B1, d1, B2, d2, rfl, m1, m2, Kd.F_mono g1 (fun _ _ => trivial), Kd.F_mono g2 (fun _ _ => trivial)⟩, hb⟩
theorem aw_lit (t s : S27) (W : World) (A1 : Option Addr) (c1 : Nat) (A2 : Option Addr) (c2 : Nat) (B1 : Option Addr) (d1 : Nat) (B2 : Option Addr) (d2 : Nat) (h1 : TF W (.agg #[.string t.f0, .slice A1 t.f1.length c1, .slice A2 t.f2.length c2]) t) (h2 : TF W (.agg #[.string s.f0, .slice B1 s.f1.length d1, .slice B2 s.f2.length d2]) s) :
  LF (W.alloc (.cells #[.string t.f0, .slice A1 t.f1.length c1, .slice A2 t.f2.length c2, .string s.f0, .slice B1 s.f1.length d1, .slice B2 s.f2.length d2] 27)) (.slice (some ⟨W.heap.size, 0, none⟩) 2 2) [t, s] := by
 have hb := below_alloc (Below.refl W.heap.size W) (.cells #[.string t.f0, .slice A1 t.f1.length c1, .slice A2 t.f2.length c2, .string s.f0, .slice B1 s.f1.length d1, .slice B2 s.f2.length d2] 27)
 obtain ⟨_, _, _, _, he, l1, l2, f1, f2⟩ := h1
 injection he with he
 simp only [Array.mk.injEq, List.cons.injEq, Value.slice.injEq, true_and, and_true] at he
 obtain ⟨⟨rfl, rfl⟩, rfl, rfl⟩ := he
 obtain ⟨_, _, _, _, he, m1, m2, g1, g2⟩ := h2
 injection he with he
 simp only [Array.mk.injEq, List.cons.injEq, Value.slice.injEq, true_and, and_true] at he
 obtain ⟨⟨rfl, rfl⟩, rfl, rfl⟩ := he
 have key : Kd.N k27 27 (W.alloc (.cells #[.string t.f0, .slice A1 t.f1.length c1, .slice A2 t.f2.length c2, .string s.f0, .slice B1 s.f1.length d1, .slice B2 s.f2.length d2] 27)) W.heap.size (fun _ => True) (.slice (some ⟨W.heap.size, 0, none⟩) 2 2) [t, s] := by
  refine ⟨fun q hq => trivial, [[.string t.f0, .slice A1 t.f1.length c1, .slice A2 t.f2.length c2], [.string s.f0, .slice B1 s.f1.length d1, .slice B2 s.f2.length d2]], rfl, ⟨fun q hq => hq.symm, [.string t.f0, .slice A1 t.f1.length c1, .slice A2 t.f2.length c2, .string s.f0, .slice B1 s.f1.length d1, .slice B2 s.f2.length d2], ?_, ?_⟩, ?_⟩
  ·refine ⟨rfl, .inr ⟨W.heap.size, 2, #[.string t.f0, .slice A1 t.f1.length c1, .slice A2 t.f2.length c2, .string s.f0, .slice B1 s.f1.length d1, .slice B2 s.f2.length d2], rfl, Nat.le_refl _, heap_alloc_new _ _, Nat.le_refl _, by simp only [maxLen]; omega, rfl, rfl⟩⟩
  ·refine Reps.snoc (ps := [[Value.string t.f0, Value.slice A1 t.f1.length c1, Value.slice A2 t.f2.length c2]]) (cs := [Value.string t.f0, Value.slice A1 t.f1.length c1, Value.slice A2 t.f2.length c2]) (c := [Value.string s.f0, Value.slice B1 s.f1.length d1, Value.slice B2 s.f2.length d2]) (Reps.snoc (ps := []) (cs := []) (Reps.none _ _) ?_ rfl) ?_ rfl
   ·exact ⟨rfl, rfl, (by intro q hq; simp at hq; rcases hq with rfl | rfl | rfl <;> rfl)⟩
   ·exact ⟨rfl, rfl, (by intro q hq; simp at hq; rcases hq with rfl | rfl | rfl <;> rfl)⟩
  ·have hlt : ∀ q, True ∧ q < W.heap.size → True ∧ some q ≠ (Value.slice (some ⟨W.heap.size, 0, none⟩) 2 2).ownBlock := fun q hq => ⟨trivial, by simp [Value.ownBlock]; have := hq.2; omega⟩
   intro j x c hx hc
   match j with
   | 0 =>
    simp only [List.getElem?_cons_zero, Option.some.injEq] at hx hc
    subst hx hc
    exact k27_mkF _ _ t l1 (Kd.F_mono (Kd.F_below (Kd.F_bound f1) hb) hlt) l2 (Kd.F_mono (Kd.F_below (Kd.F_bound f2) hb) hlt)
   | 1 =>
    simp only [List.getElem?_cons_succ, List.getElem?_cons_zero, Option.some.injEq] at hx hc
    subst hx hc
    exact k27_mkF _ _ s m1 (Kd.F_mono (Kd.F_below (Kd.F_bound g1) hb) hlt) m2 (Kd.F_mono (Kd.F_below (Kd.F_bound g2) hb) hlt)
   | j + 2 => simp at hx
 exact LF_N key
theorem aw_intro (k : Nat) (v : Value) (w : World) (h : LF w v awL) (hk : anaphora_Introduce.f k awL = some [awX]) : Calls Try.prog 23 #[v] w fun e w' => ∃ (a : Addr) (c : Nat) (b : Addr) (d : Nat) (X1 : Option Addr) (e1 : Nat) (X2 : Option Addr) (e2 : Nat), e = .returned (.slice (some a) 1 c) ∧ 1 ≤ c ∧ 2 ≤ d ∧ (∀ W, Below w'.heap.size w' W → W.cell? a = some (.slice (some b) 2 d) ∧ W.cell? ⟨b.block, b.off + 3, none⟩ = some (.string awX1.f0) ∧ W.cell? ⟨b.block, b.off + 3 + 1, none⟩ = some (.slice X1 0 e1) ∧ W.cell? ⟨b.block, b.off + 3 + 2, none⟩ = some (.slice X2 2 e2)) ∧ LF w' (.slice (some b) 2 d) awX ∧ TF w' (.agg #[.string awX1.f0, .slice X1 0 e1, .slice X2 2 e2]) awX1 ∧ Below w.heap.size w w' := by
 obtain ⟨A, c, rfl, hl, hf⟩ := h
 refine (anaphora_Introduce.calls k A c awL [awX] w (Kd.F_now hf) hl hk).mono ?_
 rintro e w' ⟨v', rfl, hv, hb⟩
 obtain ⟨B, c', rfl, hc', hg⟩ := Kd.N_V (base' := 0) hv
 obtain ⟨a, cs, rfl, _, hFK, hcs, _⟩ := Kd.F_get hg [] 0 (by decide) (by decide)
 obtain ⟨C, d, rfl, hd, hC⟩ := Kd.FK_slice_open hFK
 have hC' : Kd.F k27 w' (fun k_ => w.heap.size ≤ k_) C awX.length awX := hC
 obtain ⟨b, X1, e1, X2, e2, rfl, q1, q2, F1, F2, hcell⟩ := tree_at5 hC' (j := 1) (by decide)
 have h0 : w'.cell? a = some (.slice (some b) 2 d) := hcs 0 _ rfl
 refine ⟨a, c', b, d, X1, e1, X2, e2, rfl, hc', hd, fun W hW => ?_, ⟨some b, d, rfl, hd, Kd.F_mono hC' (fun _ _ => trivial)⟩, ⟨X1, e1, X2, e2, rfl, q1, q2, Kd.F_mono F1 (fun _ _ => trivial), Kd.F_mono F2 (fun _ _ => trivial)⟩, hb⟩
 obtain ⟨y0, y1, y2⟩ := hcell W (fun i _ hlt => hW.block i hlt)
 exact ⟨(hW.cell (World.block_lt_of_cell? _ _ h0)).trans h0, y0, y1, y2⟩
theorem aw_ret {W : World} {F : Nat} {v : Value} {n : Int} {l : List S27} {r : Nat} (h : Calls Try.prog F #[v] W fun e w' => ∃ v1_ : Value, e = .returned (.tuple #[v1_, .int .i64 n]) ∧ Kd.N k27 27 w' r (fun k_ => r ≤ k_) v1_ l ∧ Below W.heap.size W w') : Calls Try.prog F #[v] W fun e w' => ∃ v1_ : Value, e = .returned (.tuple #[v1_, .int .i64 n]) ∧ LF w' v1_ l ∧ Below W.heap.size W w' := by
 refine h.mono ?_
 rintro e w' ⟨v1, rfl, hv, hb⟩
 exact ⟨v1, rfl, LF_N hv, hb⟩
theorem aw_res (k : Nat) (v : Value) (w : World) (h : LF w v awX) (hk : anaphora_Resolve.f k awX = some (awL, 0)) : Calls Try.prog 17 #[v] w fun e w' => ∃ v1_ : Value, e = .returned (.tuple #[v1_, .int .i64 0]) ∧ LF w' v1_ awL ∧ Below w.heap.size w w' := by
 obtain ⟨A, c, rfl, hl, hf⟩ := h
 exact aw_ret (anaphora_Resolve.calls k A c awX awL 0 w (Kd.F_now hf) hl hk)
theorem aw_exp (k : Nat) (v : Value) (w : World) (h : LF w v awX) (hk : anaphora_Expand.f k awX = some (awL, 0)) : Calls Try.prog 26 #[v] w fun e w' => ∃ v1_ : Value, e = .returned (.tuple #[v1_, .int .i64 0]) ∧ LF w' v1_ awL ∧ Below w.heap.size w w' := by
 obtain ⟨A, c, rfl, hl, hf⟩ := h
 exact aw_ret (anaphora_Expand.calls k A c awX awL 0 w (Kd.F_now hf) hl hk)
theorem aw_ante (k : Nat) (v : Value) (i n : Int) (t : S27) (w : World) (h : LF w v awL) (hk : anaphora_Antecedent.f k awL i = some (t.f0, t.f1, t.f2, n)) : Calls Try.prog 14 #[v, .int .i64 i] w fun e w' => ∃ A1 c1 A2 c2, e = .returned (.tuple #[.agg #[.string t.f0, .slice A1 t.f1.length c1, .slice A2 t.f2.length c2], .int .i64 n]) ∧ TF w' (.agg #[.string t.f0, .slice A1 t.f1.length c1, .slice A2 t.f2.length c2]) t ∧ Below w.heap.size w w' := by
 obtain ⟨A, c, rfl, hl, hf⟩ := h
 refine (anaphora_Antecedent.calls k A c awL i t.f0 t.f1 t.f2 n w (Kd.F_now hf) hl hk).mono ?_
 rintro e w' ⟨v1, v2, rfl, h1, h2, hb⟩
 obtain ⟨B1, d1, rfl, m1, g1⟩ := Kd.R_V (base' := 0) h1
 obtain ⟨B2, d2, rfl, m2, g2⟩ := Kd.R_V (base' := 0) h2
 exact ⟨B1, d1, B2, d2, rfl, ⟨B1, d1, B2, d2, rfl, m1, m2, g1, Kd.F_mono g2 (fun _ _ => trivial)⟩, hb⟩
theorem aw_same (k : Nat) (v v' : Value) (t : S27) (w : World) (h : TF w v t) (h' : TF w v' t) (hk : pentaglotref31_Same.f t.f0 t.f1 t.f2 t.f0 t.f1 t.f2 = some true) : Calls Try.prog 15 #[v, v'] w fun e w' => e = .returned (.bool true) ∧ Below w.heap.size w w' := by
 obtain ⟨A1, c1, A2, c2, rfl, l1, l2, f1, f2⟩ := h
 obtain ⟨B1, d1, B2, d2, rfl, m1, m2, g1, g2⟩ := h'
 exact pentaglotref31_Same.calls _ _ _ _ _ _ _ _ _ _ _ _ _ _ true w (Kd.F_now f1) l1 (Kd.F_now f2) l2 (Kd.F_now g1) m1 (Kd.F_now g2) m2 hk
theorem aw_all (k : Nat) (v v' : Value) (l : List S27) (w : World) (h : LF w v l) (h' : LF w v' l) (hk : pentaglotref31_SameAll.f l l = some true) : Calls Try.prog 19 #[v, v'] w fun e w' => e = .returned (.bool true) ∧ Below w.heap.size w w' := by
 obtain ⟨A, c, rfl, hl, hf⟩ := h
 obtain ⟨B, d, rfl, hm, hg⟩ := h'
 exact pentaglotref31_SameAll.calls A c l B d l true w (Kd.F_now hf) hl (Kd.F_now hg) hm hk
theorem aw_pro (k : Nat) (v : Value) (t : S27) (n : Int) (w : World) (h : TF w v t) (hk : anaphora_Pronouns.f k t.f0 t.f1 t.f2 = some n) : Calls Try.prog 20 #[v] w fun e w' => e = .returned (.int .i64 n) ∧ Below w.heap.size w w' := by
 obtain ⟨A1, c1, A2, c2, rfl, l1, l2, f1, f2⟩ := h
 exact anaphora_Pronouns.calls k _ _ _ _ _ _ _ n w (Kd.F_now f1) l1 (Kd.F_now f2) l2 hk
set_option maxHeartbeats 16000000 in
set_option maxRecDepth 100000 in
theorem pentaglotlaw46_awake.calls (k : Nat) (r : Bool) (w : World) (h : pentaglotlaw46_awake.f k = some r) : Calls Try.prog 12 #[] w fun e w' => e = .returned (.bool r) ∧ Below w.heap.size w w' := by
 obtain ⟨ho, rfl⟩ := awake_ok h
 have HO := Aside0.mk ho
 clear ho h
 have hu27 := Try.underlying27
 have T1 : True := trivial
 have T2 : True := trivial
 have T3 : True := trivial
 have T4 : True := trivial
 have T5 : True := trivial
 have T6 : True := trivial
 have T7 : True := trivial
 have T8 : True := trivial
 have T9 : True := trivial
 go_enter Try.func12, Try.ntmps12
 go_wp2_with (first
  | (clear T1; go_at_call 33; refine (aw_name _ _).mono ?_; rintro e w1 ⟨v1, rfl, hv1, hb1⟩; have HV1 := Aside0.mk hv1; have HB1 := Aside0.mk hb1; clear hv1 hb1)
  | (clear T2; go_at_call 32; refine (aw_sent awNm awW _ _ HV1.out).mono ?_; rintro e w2 ⟨v2, rfl, hv2, hb2⟩; obtain ⟨A1, c1, A2, c2, e2, hq⟩ := id hv2; subst e2; have HV2 := Aside0.mk hv2; have HB2 := Aside0.mk (HB1.out.trans (hb2.mono HB1.out.size)); clear hv2 hb2 hq HB1)
  | (clear T3; go_at_call 33; refine (aw_name _ _).mono ?_; rintro e w3 ⟨v3, rfl, hv3, hb3⟩; have HV3 := Aside0.mk hv3; have HV2' := Aside0.mk (HV2.out.below hb3); have HB3 := Aside0.mk (HB2.out.trans (hb3.mono HB2.out.size)); clear hv3 hb3 HB2 HV2)
  | (clear T4; go_at_call 32; refine (aw_sent awNm awZ _ _ HV3.out).mono ?_; rintro e w4 ⟨v4, rfl, hv4, hb4⟩; obtain ⟨B1, d1, B2, d2, e4, hq⟩ := id hv4; subst e4; have HLIT := Aside0.mk (aw_lit _ _ w4 A1 c1 A2 c2 B1 d1 B2 d2 (HV2'.out.below hb4) hv4); have HB4 := Aside0.mk (HB3.out.trans (hb4.mono HB3.out.size)); clear hv4 hb4 hq HB3 HV2')
  | (clear T5; go_at_call 23; refine (aw_intro k _ _ HLIT.out HO.out.i).mono ?_; rintro e w5 ⟨a, c, b, d, X1, e1, X2, e2, rfl, hc1, hd2, hc, hx, ht, hb5⟩; have HC := Aside0.mk hc; have HX := Aside0.mk hx; have HT := Aside0.mk ht; have HL := Aside0.mk (HLIT.out.below hb5); have HB5 := Aside0.mk (HB4.out.trans ((below_alloc (Below.refl w4.heap.size w4) _).trans (hb5.mono (below_alloc (Below.refl w4.heap.size w4) _).size) |>.mono HB4.out.size)); clear hc hx ht hb5 HLIT HB4))
 have HBD := Aside0.mk (below_drew (Below.refl w5.heap.size w5))
 have hn1 : ¬ ((1 : Int) ≠ 1) := by decide
 refine start_ (n := 21) (S := fun w' => w'.cell? a = some (.slice (some b) 2 d) ∧ w'.cell? ⟨b.block, b.off + 3, none⟩ = some (.string awX1.f0) ∧ w'.cell? ⟨b.block, b.off + 3 + 1, none⟩ = some (.slice X1 0 e1) ∧ w'.cell? ⟨b.block, b.off + 3 + 2, none⟩ = some (.slice X2 2 e2)) (ds := []) (Array.replicate 21 false) (by kernel_rfl) rfl rfl ⟨(HC.out _ HBD.out).1, (HC.out _ HBD.out).2.1, (HC.out _ HBD.out).2.2.1, (HC.out _ HBD.out).2.2.2⟩ (fun hHeld => ?_)
 generalize w5.drew = A1 at HBD hHeld ⊢
 refine pu_ 0 (some 18) ?_
 refine pu_ 1 (some 19) ?_
 refine pu_ 2 (some 20) ?_
 refine pu_ 3 (some 21) ?_
 refine pu_ 4 (some 22) ?_
 refine pu_ 5 (some 23) ?_
 refine tk_ 6 (some 24) hHeld ?_
 refine pu_ 7 (some 25) ?_
 refine pu_ 8 (some 26) ?_
 refine pu_ 9 (some 27) ?_
 refine pu_ 10 (some 28) ?_
 refine pu_ 11 (some 29) ?_
 refine pu_ 12 (some 30) ?_
 refine tk_ 13 (some 31) hHeld ?_
 refine pu_ 14 (some 32) ?_
 refine tk_ 15 (some 33) hHeld ?_
 refine pu_ 16 (some 34) ?_
 refine on_ 17 (some 35) (fun K hK => ?_)
 refine go_ Try.func32 #[.agg #[.string awIt.f0, .slice none 0 0, .slice none 0 0], .string awZ] ?_
 refine (aw_sent awIt awZ _ _ ⟨none, 0, none, 0, rfl, Nat.le_refl _, Nat.le_refl _, Kd.F_nil _ _ _, Kd.F_nil _ _ _⟩).mono ?_
 rintro e w9 ⟨v6, rfl, hv6, hz⟩
 refine ⟨_, rfl, ?_⟩
 have HZ6 := Aside0.mk (HBD.out.trans (hz.mono HBD.out.size))
 have HV6 := Aside0.mk hv6
 clear hz hv6
 refine hK.out _ _ ⟨(HC.out _ HZ6.out).1, (HC.out _ HZ6.out).2.1, (HC.out _ HZ6.out).2.2.1, (HC.out _ HZ6.out).2.2.2⟩ (fun hHeld => ?_)
 clear hK K
 refine no_ (N := some 35) ?_
 refine on_ 18 (some 36) (fun K hK => ?_)
 refine go_ Try.func15 #[.agg #[.string awX1.f0, .slice X1 0 e1, .slice X2 2 e2], v6] ?_
 refine (aw_same k _ _ awX1 _ (HT.out.below HZ6.out) HV6.out HO.out.s).mono ?_
 rintro e w9 ⟨rfl, hz⟩
 refine ⟨_, rfl, ?_⟩
 have HZ7 := Aside0.mk (HZ6.out.trans (hz.mono HZ6.out.size))
 clear hz
 refine hK.out _ _ ⟨(HC.out _ HZ7.out).1, (HC.out _ HZ7.out).2.1, (HC.out _ HZ7.out).2.2.1, (HC.out _ HZ7.out).2.2.2⟩ (fun hHeld => ?_)
 clear hK K
 refine no_ (N := some 36) ?_
 refine pu_ 19 (some 37) ?_
 refine pu_ 20 (some 38) ?_
 refine done_ (by kernel_rfl) ?_
 have y0 := (HC.out _ HZ7.out).1
 go_wp2_with (first
  | (clear T6; go_at_call 17; refine (aw_res k _ _ (HX.out.below HZ7.out) HO.out.r).mono ?_; rintro e wa ⟨vr, rfl, hr, hba⟩; have HR := Aside0.mk hr; have HBA := Aside0.mk (HZ7.out.trans (hba.mono HZ7.out.size)); clear hr hba y0)
  | (clear T7; go_at_call 14; refine (aw_ante k _ 1 0 awNm _ (HL.out.below HBA.out) HO.out.a).mono ?_; rintro e wb ⟨N1, m1, N2, m2, rfl, hn, hbb⟩; have HN := Aside0.mk hn; have HR' := Aside0.mk (HR.out.below hbb); have HBB := Aside0.mk (HBA.out.trans (hbb.mono HBA.out.size)); have HBC := Aside0.mk (HBB.out.trans ((below_alloc (Below.refl wb.heap.size wb) (.cells #[.string awNm.f0, .slice N1 awNm.f1.length m1, .slice N2 awNm.f2.length m2] 27)).mono HBB.out.size)); have HBD' := Aside0.mk (below_alloc (Below.refl wb.heap.size wb) (.cells #[.string awNm.f0, .slice N1 awNm.f1.length m1, .slice N2 awNm.f2.length m2] 27)); clear hn hbb HR)
  | (clear T8; go_at_call 14; refine (aw_ante k _ 0 10 awE _ (HL.out.below HBC.out) HO.out.b).mono ?_; rintro e wc ⟨M1, o1, M2, o2, rfl, _, hbc⟩; have HBE' := Aside0.mk (HBC.out.trans (hbc.mono HBC.out.size)); have HBF := Aside0.mk (HBD'.out.trans (hbc.mono HBD'.out.size)); have HBOX := Aside0.mk ((hbc.block wb.heap.size (Nat.lt_of_lt_of_le (Nat.lt_succ_self _) (by simp))).trans (heap_alloc_new wb (.cells #[.string awNm.f0, .slice N1 awNm.f1.length m1, .slice N2 awNm.f2.length m2] 27))); have HBG := Aside0.mk (below_alloc (Below.refl wc.heap.size wc) (.cells #[.string awE.f0, .slice M1 awE.f1.length o1, .slice M2 awE.f2.length o2] 27)); have y1 := (HC.out _ (HBE'.out.trans (HBG.out.mono HBE'.out.size))).1; clear hbc)
  | (clear T9; go_at_call 26; refine (aw_exp k _ _ (HX.out.below (HBE'.out.trans (HBG.out.mono HBE'.out.size))) HO.out.x).mono ?_; rintro e w0 ⟨vs, rfl, hs, hbs⟩; have HS := Aside0.mk hs; have HBH := Aside0.mk (HBG.out.trans (hbs.mono HBG.out.size)); clear hs hbs y1))
 have HBI := Aside0.mk (HBE'.out.trans (HBH.out.mono HBE'.out.size))
 have HBJ := Aside0.mk (HBF.out.trans (HBH.out.mono HBF.out.size))
 have HC0 := Aside0.mk (fun (V : World) (hV : Below w0.heap.size w0 V) => HC.out V (HBI.out.trans (hV.mono HBI.out.size)))
 have HL0 := Aside0.mk (HL.out.below HBI.out)
 have HT0 := Aside0.mk (HT.out.below HBI.out)
 have HR0 := Aside0.mk (HR'.out.below HBJ.out)
 have HN0 := Aside0.mk (HN.out.below HBJ.out)
 have HBX := Aside0.mk (blk_below HBOX.out HBH.out)
 have HB0 := Aside0.mk (HB5.out.trans (HBI.out.mono HB5.out.size))
 have HBD := Aside0.mk (below_drew (Below.refl w0.heap.size w0))
 clear HC HL HT HR' HN HBOX HX HZ6 HZ7 HBA HBB HBC HBD' HBE' HBF HBG HBH HBI HBJ HB5
 refine start_ (n := 39) (S := fun w' => w'.cell? a = some (.slice (some b) 2 d) ∧ w'.cell? ⟨b.block, b.off + 3, none⟩ = some (.string awX1.f0) ∧ w'.cell? ⟨b.block, b.off + 3 + 1, none⟩ = some (.slice X1 0 e1) ∧ w'.cell? ⟨b.block, b.off + 3 + 2, none⟩ = some (.slice X2 2 e2) ∧ w'.cell? ⟨wb.heap.size, 0, none⟩ = some (.string awNm.f0) ∧ w'.cell? ⟨wb.heap.size, 1, none⟩ = some (.slice N1 awNm.f1.length m1) ∧ w'.cell? ⟨wb.heap.size, 2, none⟩ = some (.slice N2 awNm.f2.length m2)) (ds := []) (Array.replicate 39 false) (by kernel_rfl) rfl rfl ⟨(HC0.out _ HBD.out).1, (HC0.out _ HBD.out).2.1, (HC0.out _ HBD.out).2.2.1, (HC0.out _ HBD.out).2.2.2, (blk_cell (blk_below HBX.out HBD.out) 0).trans rfl, (blk_cell (blk_below HBX.out HBD.out) 1).trans rfl, (blk_cell (blk_below HBX.out HBD.out) 2).trans rfl⟩ (fun hHeld => ?_)
 generalize w0.drew = A1 at HBD hHeld ⊢
 refine pu_ 0 (some 63) ?_
 refine pu_ 1 (some 64) ?_
 refine pu_ 2 (some 65) ?_
 refine pu_ 3 (some 66) ?_
 refine pu_ 4 (some 67) ?_
 refine on_ 5 (some 68) (fun K hK => ?_)
 refine go_ Try.func19 #[vr, .slice (some ⟨w4.heap.size, 0, none⟩) 2 2] ?_
 refine (aw_all k _ _ awL _ (HR0.out.below HBD.out) (HL0.out.below HBD.out) HO.out.l).mono ?_
 rintro e w9 ⟨rfl, hz⟩
 refine ⟨_, rfl, ?_⟩
 have HP1 := Aside0.mk (HBD.out.trans (hz.mono HBD.out.size))
 clear hz
 refine hK.out _ _ ⟨(HC0.out _ HP1.out).1, (HC0.out _ HP1.out).2.1, (HC0.out _ HP1.out).2.2.1, (HC0.out _ HP1.out).2.2.2, (blk_cell (blk_below HBX.out HP1.out) 0).trans rfl, (blk_cell (blk_below HBX.out HP1.out) 1).trans rfl, (blk_cell (blk_below HBX.out HP1.out) 2).trans rfl⟩ (fun hHeld => ?_)
 clear hK K
 refine no_ (N := some 68) ?_
 refine pu_ 6 (some 69) ?_
 refine pu_ 7 (some 70) ?_
 refine pu_ 8 (some 71) ?_
 refine pu_ 9 (some 72) ?_
 refine pu_ 10 (some 73) ?_
 refine pu_ 11 (some 74) ?_
 refine tk_ 12 (some 75) hHeld ?_
 refine on_ 13 (some 76) (fun K hK => ?_)
 refine go_ Try.func33 #[.string ⟨#[109, 97, 114, 116, 97]⟩] ?_
 refine (aw_name _ _).mono ?_
 rintro e w9 ⟨v7, rfl, hv7, hz⟩
 refine ⟨_, rfl, ?_⟩
 have HP2 := Aside0.mk (HP1.out.trans (hz.mono HP1.out.size))
 have HV7 := Aside0.mk hv7
 clear hv7
 clear hz
 refine hK.out _ _ ⟨(HC0.out _ HP2.out).1, (HC0.out _ HP2.out).2.1, (HC0.out _ HP2.out).2.2.1, (HC0.out _ HP2.out).2.2.2, (blk_cell (blk_below HBX.out HP2.out) 0).trans rfl, (blk_cell (blk_below HBX.out HP2.out) 1).trans rfl, (blk_cell (blk_below HBX.out HP2.out) 2).trans rfl⟩ (fun hHeld => ?_)
 clear hK K
 refine no_ (N := some 76) ?_
 refine on_ 14 (some 77) (fun K hK => ?_)
 refine go_ Try.func15 #[.agg #[.string awNm.f0, .slice N1 awNm.f1.length m1, .slice N2 awNm.f2.length m2], v7] ?_
 refine (aw_same k _ _ awNm _ (HN0.out.below HP2.out) HV7.out HO.out.n).mono ?_
 rintro e w9 ⟨rfl, hz⟩
 refine ⟨_, rfl, ?_⟩
 have HP3 := Aside0.mk (HP2.out.trans (hz.mono HP2.out.size))
 clear hz
 refine hK.out _ _ ⟨(HC0.out _ HP3.out).1, (HC0.out _ HP3.out).2.1, (HC0.out _ HP3.out).2.2.1, (HC0.out _ HP3.out).2.2.2, (blk_cell (blk_below HBX.out HP3.out) 0).trans rfl, (blk_cell (blk_below HBX.out HP3.out) 1).trans rfl, (blk_cell (blk_below HBX.out HP3.out) 2).trans rfl⟩ (fun hHeld => ?_)
 clear hK K
 refine no_ (N := some 77) ?_
 refine pu_ 15 (some 78) ?_
 refine pu_ 16 (some 79) ?_
 refine pu_ 17 (some 80) ?_
 refine pu_ 18 (some 81) ?_
 refine pu_ 19 (some 82) ?_
 refine pu_ 20 (some 83) ?_
 refine pu_ 21 (some 84) ?_
 refine pu_ 22 (some 85) ?_
 refine tk_ 23 (some 86) hHeld ?_
 refine pu_ 24 (some 87) ?_
 refine tk_ 25 (some 88) hHeld ?_
 refine on_ 26 (some 89) (fun K hK => ?_)
 refine go_ Try.func20 #[.agg #[.string awX1.f0, .slice X1 0 e1, .slice X2 2 e2]] ?_
 refine (aw_pro k _ awX1 1 _ (HT0.out.below HP3.out) HO.out.p).mono ?_
 rintro e w9 ⟨rfl, hz⟩
 refine ⟨_, rfl, ?_⟩
 have HP4 := Aside0.mk (HP3.out.trans (hz.mono HP3.out.size))
 clear hz
 refine hK.out _ _ ⟨(HC0.out _ HP4.out).1, (HC0.out _ HP4.out).2.1, (HC0.out _ HP4.out).2.2.1, (HC0.out _ HP4.out).2.2.2, (blk_cell (blk_below HBX.out HP4.out) 0).trans rfl, (blk_cell (blk_below HBX.out HP4.out) 1).trans rfl, (blk_cell (blk_below HBX.out HP4.out) 2).trans rfl⟩ (fun hHeld => ?_)
 clear hK K
 refine no_ (N := some 89) ?_
 refine pu_ 27 (some 90) ?_
 refine pu_ 28 (some 91) ?_
 refine pu_ 29 (some 92) ?_
 refine pu_ 30 (some 93) ?_
 refine pu_ 31 (some 94) ?_
 refine pu_ 32 (some 95) ?_
 refine pu_ 33 (some 96) ?_
 refine pu_ 34 (some 97) ?_
 refine pu_ 35 (some 98) ?_
 refine on_ 36 (some 99) (fun K hK => ?_)
 refine go_ Try.func19 #[vs, .slice (some ⟨w4.heap.size, 0, none⟩) 2 2] ?_
 refine (aw_all k _ _ awL _ (HS.out.below HP4.out) (HL0.out.below HP4.out) HO.out.l).mono ?_
 rintro e w9 ⟨rfl, hz⟩
 refine ⟨_, rfl, ?_⟩
 have HP5 := Aside0.mk (HP4.out.trans (hz.mono HP4.out.size))
 clear hz
 refine hK.out _ _ ⟨(HC0.out _ HP5.out).1, (HC0.out _ HP5.out).2.1, (HC0.out _ HP5.out).2.2.1, (HC0.out _ HP5.out).2.2.2, (blk_cell (blk_below HBX.out HP5.out) 0).trans rfl, (blk_cell (blk_below HBX.out HP5.out) 1).trans rfl, (blk_cell (blk_below HBX.out HP5.out) 2).trans rfl⟩ (fun hHeld => ?_)
 clear hK K
 refine no_ (N := some 99) ?_
 refine pu_ 37 (some 100) ?_
 refine pu_ 38 (some 0) ?_
 refine done_ (by kernel_rfl) ?_
 go_wp2
 go_ret
 exact ⟨rfl, HB0.out.trans (HP5.out.mono HB0.out.size)⟩

end Go.Proofs.Ytfampmajmbediaa.P
