/- Plain facts on the printed functions of the circuits: which are valid, what their gates are worth. -/
import Derived.Test.YtflknolnclnhfaaPx0
import Derived.Test.YtflknolnclnhfaaPx1
import Derived.Test.YtflknolnclnhfaaPx2
import Derived.Test.YtflknolnclnhfaaPx5
import Derived.Test.YtflknolnclnhfaaPx6
import Derived.Test.YtflknolnclnhfaaPx7
import Derived.Test.YtflknolnclnhfaaPx9
namespace Go.Proofs.Ytflknolnclnhfaa.Sv
set_option linter.unusedVariables false
set_option linter.unusedSimpArgs false
open Go.RowKit Go.Proofs.Ytflknolnclnhfaa.P Go.Proofs.YtflknolnclnhfaaW.PrintWords Go.Proofs.YtflknolnclnhfaaW.PrintLast

theorem w64 {x : Int} (h0 : -9223372036854775808 ≤ x) (h1 : x ≤ 9223372036854775807) : wrap64 x = x := by unfold wrap64; omega
theorem wf64 {n : Int} (h : (Lit.int .i64 n).wf = true) : -9223372036854775808 ≤ n ∧ n ≤ 9223372036854775807 := by
  simp [Lit.wf, IntKind.min, IntKind.max, IntKind.signed, IntKind.bits] at h
  omega
theorem awake : Ev (fun k => pentaglotlaw28_awake.f k) true := Ev.of pentaglotlaw28_awake.mono (k := 60) (by decide +kernel)
/-- A list's rest from a place on. -/
theorem rest {l t : List Int} {x : Int} {i : Nat} (h : l.drop i = x :: t) : i < l.length ∧ rd l (i : Int) = x ∧ l.drop (i + 1) = t := by
  have hi : i < l.length := by
    rcases Nat.lt_or_ge i l.length with h' | h'
    · exact h'
    · rw [List.drop_of_length_le h'] at h; cases h
  rw [List.drop_eq_getElem_cons hi] at h
  injection h with h1 h2
  refine ⟨hi, ?_, h2⟩
  unfold rd
  rw [Int.toNat_natCast, List.getD_eq_getElem?_getD, List.getElem?_eq_getElem hi]
  exact h1
theorem rest52 {l t : List S52} {x : S52} {i : Nat} (h : l.drop i = x :: t) : i < l.length ∧ rd_T52 l (i : Int) = x ∧ l.drop (i + 1) = t := by
  have hi : i < l.length := by
    rcases Nat.lt_or_ge i l.length with h' | h'
    · exact h'
    · rw [List.drop_of_length_le h'] at h; cases h
  rw [List.drop_eq_getElem_cons hi] at h
  injection h with h1 h2
  refine ⟨hi, ?_, h2⟩
  unfold rd_T52
  rw [Int.toNat_natCast, List.getD_eq_getElem?_getD, List.getElem?_eq_getElem hi]
  exact h1
theorem restB {l t : List Bool} {x : Bool} {i : Nat} (h : l.drop i = x :: t) : i < l.length ∧ rdOf false l (i : Int) = x ∧ l.drop (i + 1) = t := by
  have hi : i < l.length := by
    rcases Nat.lt_or_ge i l.length with h' | h'
    · exact h'
    · rw [List.drop_of_length_le h'] at h; cases h
  rw [List.drop_eq_getElem_cons hi] at h
  injection h with h1 h2
  refine ⟨hi, ?_, h2⟩
  unfold rdOf
  rw [Int.toNat_natCast, List.getD_eq_getElem?_getD, List.getElem?_eq_getElem hi]
  exact h1
theorem rest_nil {α : Type} {l : List α} {i : Nat} (hi : i ≤ l.length) (h : l.drop i = []) : i = l.length := by
  have := List.drop_eq_nil_iff.1 h
  omega
/-- The circuits that the laws look at: their gates have at most 50 kids. -/
def Sm (gs : List S52) : Prop := gs.length ≤ 60 ∧ ∀ g ∈ gs, g.f2.length ≤ 50
theorem large_loop (gs : List S52) (hl : gs.length ≤ 60) : ∀ (t : List S52) (i : Nat), gs.drop i = t → i ≤ gs.length →
    ∃ b, Ev (fun k => pentaglotref28_Large.l0 k gs (gs.length : Int) (i : Int)) b ∧ (b = false → ∀ g ∈ t, g.f2.length ≤ 50) := by
  intro t
  induction t with
  | nil =>
    intro i h hi
    have := rest_nil hi h
    refine ⟨false, Ev.step (f := fun _ => some false) (fun k => ?_) (Ev.now _), fun _ g hg => by cases hg⟩
    simp only [pentaglotref28_Large.l0]
    rw [if_neg (by omega)]
  | cons g t ih =>
    intro i h hi
    obtain ⟨h1, h2, h3⟩ := rest52 h
    by_cases hk : (g.f2.length : Int) > 50
    · refine ⟨true, Ev.step (f := fun _ => some true) (fun k => ?_) (Ev.now _), fun e => by cases e⟩
      simp only [pentaglotref28_Large.l0, h2]
      rw [if_pos (by omega), if_pos (by omega), if_pos (by omega), if_pos hk]
    · obtain ⟨b, hb, hs⟩ := ih (i + 1) h3 (by omega)
      refine ⟨b, Ev.step (f := fun k => pentaglotref28_Large.l0 k gs (gs.length : Int) ((i + 1 : Nat) : Int)) (fun k => ?_) hb, fun e x hx => ?_⟩
      · simp only [pentaglotref28_Large.l0, h2]
        rw [if_pos (by omega), if_pos (by omega), if_pos (by omega), if_neg hk, w64 (by omega) (by omega)]
        rfl
      · rcases List.mem_cons.1 hx with rfl | hx
        · omega
        · exact hs e x hx
theorem large (n0 : Int) (gs : List S52) (n2 : Int) : ∃ b, Ev (fun k => pentaglotref28_Large.f k n0 gs n2 60) b ∧ (b = false → Sm gs) := by
  by_cases h : (gs.length : Int) > 60
  · refine ⟨true, ⟨0, fun k _ => ?_⟩, fun e => by cases e⟩
    simp only [pentaglotref28_Large.f]
    rw [if_pos h]
  · obtain ⟨b, hb, hs⟩ := large_loop gs (by omega) gs 0 rfl (Nat.zero_le _)
    refine ⟨b, Ev.congr (fun k => ?_) hb, fun e => ⟨by omega, hs e⟩⟩
    simp only [pentaglotref28_Large.f]
    rw [if_neg h]
    rfl
/-- Which gates are valid. -/
def opG (n0 : Int) (g : S52) : Bool :=
  if g.f0 = 1 ∨ g.f0 = 2 then g.f1 == 0 && (g.f2.length : Int) == 0
  else if g.f0 = 3 then decide (0 ≤ g.f1) && decide (g.f1 < n0) && (g.f2.length : Int) == 0
  else if g.f0 = 4 then g.f1 == 0 && (g.f2.length : Int) == 1
  else if g.f0 = 5 ∨ g.f0 = 6 then g.f1 == 0 else false
def inB (i : Int) (k : Int) : Bool := decide (0 ≤ k) && decide (k < i)
def okG (n0 : Int) (i : Nat) (g : S52) : Bool := g.f2.all (inB i) && opG n0 g
def okL (n0 : Int) : Nat → List S52 → Bool
  | _, [] => true
  | i, g :: gs => okG n0 i g && okL n0 (i + 1) gs
def okC (n0 : Int) (gs : List S52) (n2 : Int) : Bool := decide (0 ≤ n0) && decide (n0 ≤ 1024) && decide (1 ≤ (gs.length : Int)) && decide ((gs.length : Int) ≤ 20000) && decide (0 ≤ n2) && decide (n2 < (gs.length : Int)) && okL n0 0 gs
theorem well_op (n0 : Int) (gs : List S52) (n2 : Int) (g : S52) : Ev (fun k => if g.f0 = 1 then (sat_wellFormed.j1 k g.f0 (g.f0 == 1) n0 gs n2 g.f0 g.f1 g.f2) else (sat_wellFormed.j1 k g.f0 (g.f0 == 2) n0 gs n2 g.f0 g.f1 g.f2)) (opG n0 g) := by
  refine Ev.step (f := fun _ => some (opG n0 g)) (fun k => ?_) (Ev.now _)
  unfold opG
  simp only [sat_wellFormed.j1]
  obtain ⟨f0, f1, f2⟩ := g
  dsimp only
  by_cases h1 : f0 = 1
  · subst h1; by_cases h : f1 = 0 <;> simp [h]
  · by_cases h2 : f0 = 2
    · subst h2; by_cases h : f1 = 0 <;> simp [h]
    · by_cases h3 : f0 = 3
      · subst h3
        by_cases h : 0 ≤ f1 <;> by_cases h' : f1 < n0 <;> simp [h, h']
      · by_cases h4 : f0 = 4
        · subst h4
          by_cases h : f1 = 0 <;> simp [h]
        · by_cases h5 : f0 = 5
          · subst h5; simp
          · by_cases h6 : f0 = 6
            · subst h6; simp
            · simp [h1, h2, h3, h4, h5, h6]
theorem well_loop (n0 : Int) (gs : List S52) (n2 : Int) (g : S52) (hg : g.f2.length ≤ 50) (i : Int) : ∀ (t : List Int) (j : Nat), g.f2.drop j = t → j ≤ g.f2.length →
    Ev (fun k => sat_wellFormed.l0 k i g.f2 (g.f2.length : Int) (j : Int) n0 gs n2 g.f0 g.f1 g.f2) (t.all (inB i) && opG n0 g) := by
  intro t
  induction t with
  | nil =>
    intro j h hj
    have := rest_nil hj h
    refine Ev.step (fun k => ?_) (by simpa using well_op n0 gs n2 g)
    simp only [sat_wellFormed.l0]
    rw [if_neg (by omega)]
  | cons x t ih =>
    intro j h hj
    obtain ⟨h1, h2, h3⟩ := rest h
    by_cases hx0 : x < 0
    · refine Ev.step (f := fun _ => some false) (fun k => ?_) (by
        rw [List.all_cons, show inB i x = false by unfold inB; simp; omega]
        exact Ev.now _)
      simp only [sat_wellFormed.l0, h2]
      rw [if_pos (by omega), if_pos (by omega), if_pos (by omega), if_pos hx0]
    · by_cases hx1 : x ≥ i
      · refine Ev.step (f := fun _ => some false) (fun k => ?_) (by
          rw [List.all_cons, show inB i x = false by unfold inB; simp; omega]
          exact Ev.now _)
        simp only [sat_wellFormed.l0, h2]
        rw [if_pos (by omega), if_pos (by omega), if_pos (by omega), if_neg hx0, if_pos hx1]
      · rw [List.all_cons, show inB i x = true by unfold inB; simp; omega, Bool.true_and]
        refine Ev.step (fun k => ?_) (ih (j + 1) h3 (by omega))
        simp only [sat_wellFormed.l0, h2]
        rw [if_pos (by omega), if_pos (by omega), if_pos (by omega), if_neg hx0, if_neg hx1, w64 (by omega) (by omega)]
        rfl
theorem well (n0 : Int) (gs : List S52) (n2 : Int) (g : S52) (t : List S52) (i : Nat) (h : gs.drop i = g :: t) (hg : g.f2.length ≤ 50) : Ev (fun k => sat_wellFormed.f k n0 gs n2 (i : Int)) (okG n0 i g) := by
  obtain ⟨h1, h2, h3⟩ := rest52 h
  refine Ev.congr (fun k => ?_) (well_loop n0 gs n2 g hg (i : Int) g.f2 0 rfl (Nat.zero_le _))
  simp only [sat_wellFormed.f]
  rw [if_pos (by omega), if_pos (by omega), h2]
  rfl
theorem check_loop (n0 : Int) (gs : List S52) (n2 : Int) (hl : gs.length ≤ 1000000) : ∀ (t : List S52) (i : Nat), gs.drop i = t → i ≤ gs.length → (∀ g ∈ t, g.f2.length ≤ 50) →
    Ev (fun k => sat_Check.l0 k (gs.length : Int) (i : Int) n0 gs n2) (okL n0 i t) := by
  intro t
  induction t with
  | nil =>
    intro i h hi _
    have := rest_nil hi h
    refine Ev.step (f := fun _ => some true) (fun k => ?_) (Ev.now _)
    simp only [sat_Check.l0]
    rw [if_neg (by omega)]
  | cons g t ih =>
    intro i h hi hk
    obtain ⟨h1, h2, h3⟩ := rest52 h
    refine Ev.step (fun k => by simp only [sat_Check.l0]; rw [if_pos (by omega : (i : Int) < (gs.length : Int))]) (Ev.bind (well n0 gs n2 g t i h (hk g List.mem_cons_self)) ?_)
    unfold okL
    cases okG n0 i g with
    | false => simp only [Bool.false_eq_true, if_false, Bool.false_and]; exact Ev.now _
    | true =>
      simp only [if_true, Bool.true_and]
      rw [w64 (by omega) (by omega)]
      exact ih (i + 1) h3 (by omega) (fun x hx => hk x (List.mem_cons_of_mem _ hx))
theorem check (n0 : Int) (gs : List S52) (n2 : Int) (hs : Sm gs) : Ev (fun k => sat_Check.f k n0 gs n2) (okC n0 gs n2) := by
  have hno : ∀ (x : Bool), x = true → okC n0 gs n2 = false → Ev (fun k => sat_Check.j0 k x n0 gs n2) (okC n0 gs n2) := fun x hx e => by
    rw [e]
    subst hx
    exact Ev.step (f := fun _ => some false) (fun k => by simp only [sat_Check.j0, if_true]) (Ev.now _)
  unfold sat_Check.f
  have hs1 := hs.1
  by_cases h1 : n0 < 0
  · simp only [if_pos h1]; exact hno _ rfl (by unfold okC; rw [decide_eq_false (by omega : ¬ 0 ≤ n0)]; rfl)
  simp only [if_neg h1]
  by_cases h2 : n0 > 1024
  · simp only [if_pos h2]; exact hno _ rfl (by unfold okC; rw [decide_eq_false (by omega : ¬ n0 ≤ 1024)]; simp)
  simp only [if_neg h2]
  by_cases h3 : (gs.length : Int) < 1
  · simp only [if_pos h3]; exact hno _ rfl (by unfold okC; rw [decide_eq_false (by omega : ¬ 1 ≤ (gs.length : Int))]; simp)
  simp only [if_neg h3, if_neg (by omega : ¬ (gs.length : Int) > 20000)]
  by_cases h4 : n2 < 0
  · simp only [if_pos h4]; exact hno _ rfl (by unfold okC; rw [decide_eq_false (by omega : ¬ 0 ≤ n2)]; simp)
  simp only [if_neg h4]
  by_cases h5 : n2 ≥ (gs.length : Int)
  · exact hno _ (decide_eq_true h5) (by unfold okC; rw [decide_eq_false (by omega : ¬ n2 < (gs.length : Int))]; simp)
  · rw [decide_eq_false h5]
    have e : okC n0 gs n2 = okL n0 0 gs := by
      unfold okC
      rw [decide_eq_true (by omega : 0 ≤ n0), decide_eq_true (by omega : n0 ≤ 1024), decide_eq_true (by omega : 1 ≤ (gs.length : Int)), decide_eq_true (by omega : (gs.length : Int) ≤ 20000), decide_eq_true (by omega : 0 ≤ n2), decide_eq_true (by omega : n2 < (gs.length : Int))]
      rfl
    rw [e]
    refine Ev.step (fun k => ?_) (check_loop n0 gs n2 (by omega) gs 0 rfl (Nat.zero_le _) hs.2)
    simp only [sat_Check.j0, Bool.false_eq_true, if_false]
    rfl
/-! the reference's -/
theorem rgate_op (n0 : Int) (g : S52) : Ev (fun k => if g.f0 = 1 then (pentaglotref27_gate.j1 k n0 g.f0 (g.f0 == 1) g.f0 g.f1 g.f2) else (pentaglotref27_gate.j1 k n0 g.f0 (g.f0 == 2) g.f0 g.f1 g.f2)) (opG n0 g) := by
  refine Ev.step (f := fun _ => some (opG n0 g)) (fun k => ?_) (Ev.now _)
  unfold opG
  simp only [pentaglotref27_gate.j1]
  obtain ⟨f0, f1, f2⟩ := g
  dsimp only
  by_cases h1 : f0 = 1
  · subst h1; by_cases h : f1 = 0 <;> simp [h]
  · by_cases h2 : f0 = 2
    · subst h2; by_cases h : f1 = 0 <;> simp [h]
    · by_cases h3 : f0 = 3
      · subst h3
        by_cases h : 0 ≤ f1 <;> by_cases h' : f1 < n0 <;> simp [h, h']
      · by_cases h4 : f0 = 4
        · subst h4
          by_cases h : f1 = 0 <;> simp [h]
        · by_cases h5 : f0 = 5
          · subst h5; simp
          · by_cases h6 : f0 = 6
            · subst h6; simp
            · simp [h1, h2, h3, h4, h5, h6]
theorem rgate_loop (n0 : Int) (g : S52) (hg : g.f2.length ≤ 50) (i : Int) : ∀ (t : List Int) (j : Nat), g.f2.drop j = t → j ≤ g.f2.length →
    Ev (fun k => pentaglotref27_gate.l0 k i n0 (j : Int) g.f0 g.f1 g.f2) (t.all (inB i) && opG n0 g) := by
  intro t
  induction t with
  | nil =>
    intro j h hj
    have := rest_nil hj h
    refine Ev.step (fun k => ?_) (by simpa using rgate_op n0 g)
    simp only [pentaglotref27_gate.l0]
    rw [if_neg (by omega)]
  | cons x t ih =>
    intro j h hj
    obtain ⟨h1, h2, h3⟩ := rest h
    by_cases hx0 : x < 0
    · refine Ev.step (f := fun _ => some false) (fun k => ?_) (by
        rw [List.all_cons, show inB i x = false by unfold inB; simp; omega]
        exact Ev.now _)
      simp only [pentaglotref27_gate.l0, h2]
      rw [if_pos (by omega), if_pos (by omega), if_pos hx0]
    · by_cases hx1 : x ≥ i
      · refine Ev.step (f := fun _ => some false) (fun k => ?_) (by
          rw [List.all_cons, show inB i x = false by unfold inB; simp; omega]
          exact Ev.now _)
        simp only [pentaglotref27_gate.l0, h2]
        rw [if_pos (by omega), if_pos (by omega), if_neg hx0, if_pos hx1]
      · rw [List.all_cons, show inB i x = true by unfold inB; simp; omega, Bool.true_and]
        refine Ev.step (fun k => ?_) (ih (j + 1) h3 (by omega))
        simp only [pentaglotref27_gate.l0, h2]
        rw [if_pos (by omega), if_pos (by omega), if_neg hx0, if_neg hx1, w64 (by omega) (by omega)]
        rfl
theorem rgate (n0 : Int) (g : S52) (hg : g.f2.length ≤ 50) (i : Nat) : Ev (fun k => pentaglotref27_gate.f k g.f0 g.f1 g.f2 (i : Int) n0) (okG n0 i g) := rgate_loop n0 g hg (i : Int) g.f2 0 rfl (Nat.zero_le _)
theorem valid_loop (n0 : Int) (gs : List S52) (n2 : Int) (hl : gs.length ≤ 1000000) : ∀ (t : List S52) (i : Nat), gs.drop i = t → i ≤ gs.length → (∀ g ∈ t, g.f2.length ≤ 50) →
    Ev (fun k => pentaglotref27_Valid.l0 k (i : Int) n0 gs n2) (okL n0 i t) := by
  intro t
  induction t with
  | nil =>
    intro i h hi _
    have := rest_nil hi h
    refine Ev.step (f := fun _ => some true) (fun k => ?_) (Ev.now _)
    simp only [pentaglotref27_Valid.l0]
    rw [if_neg (by omega)]
  | cons g t ih =>
    intro i h hi hk
    obtain ⟨h1, h2, h3⟩ := rest52 h
    refine Ev.step (fun k => by simp only [pentaglotref27_Valid.l0, h2]; rw [if_pos (by omega : (i : Int) < (gs.length : Int)), if_pos (by omega : (0 : Int) ≤ (i : Int))]) (Ev.bind (rgate n0 g (hk g List.mem_cons_self) i) ?_)
    unfold okL
    cases okG n0 i g with
    | false => simp only [Bool.false_eq_true, if_false, Bool.false_and]; exact Ev.now _
    | true =>
      simp only [if_true, Bool.true_and]
      rw [w64 (by omega) (by omega)]
      exact ih (i + 1) h3 (by omega) (fun x hx => hk x (List.mem_cons_of_mem _ hx))
theorem valid (n0 : Int) (gs : List S52) (n2 : Int) (hs : Sm gs) : Ev (fun k => pentaglotref27_Valid.f k n0 gs n2) (okC n0 gs n2) := by
  have hno : ∀ (x : Bool), x = true → okC n0 gs n2 = false → Ev (fun k => pentaglotref27_Valid.j0 k x n0 gs n2) (okC n0 gs n2) := fun x hx e => by
    rw [e]
    subst hx
    exact Ev.step (f := fun _ => some false) (fun k => by simp only [pentaglotref27_Valid.j0, if_true]) (Ev.now _)
  unfold pentaglotref27_Valid.f
  have hs1 := hs.1
  by_cases h1 : n0 < 0
  · simp only [if_pos h1]; exact hno _ rfl (by unfold okC; rw [decide_eq_false (by omega : ¬ 0 ≤ n0)]; rfl)
  simp only [if_neg h1]
  by_cases h2 : n0 > 1024
  · simp only [if_pos h2]; exact hno _ rfl (by unfold okC; rw [decide_eq_false (by omega : ¬ n0 ≤ 1024)]; simp)
  simp only [if_neg h2]
  by_cases h3 : (gs.length : Int) < 1
  · simp only [if_pos h3]; exact hno _ rfl (by unfold okC; rw [decide_eq_false (by omega : ¬ 1 ≤ (gs.length : Int))]; simp)
  simp only [if_neg h3, if_neg (by omega : ¬ (gs.length : Int) > 20000)]
  by_cases h4 : n2 < 0
  · simp only [if_pos h4]; exact hno _ rfl (by unfold okC; rw [decide_eq_false (by omega : ¬ 0 ≤ n2)]; simp)
  simp only [if_neg h4]
  by_cases h5 : n2 ≥ (gs.length : Int)
  · exact hno _ (decide_eq_true h5) (by unfold okC; rw [decide_eq_false (by omega : ¬ n2 < (gs.length : Int))]; simp)
  · rw [decide_eq_false h5]
    have e : okC n0 gs n2 = okL n0 0 gs := by
      unfold okC
      rw [decide_eq_true (by omega : 0 ≤ n0), decide_eq_true (by omega : n0 ≤ 1024), decide_eq_true (by omega : 1 ≤ (gs.length : Int)), decide_eq_true (by omega : (gs.length : Int) ≤ 20000), decide_eq_true (by omega : 0 ≤ n2), decide_eq_true (by omega : n2 < (gs.length : Int))]
      rfl
    rw [e]
    refine Ev.step (fun k => ?_) (valid_loop n0 gs n2 (by omega) gs 0 rfl (Nat.zero_le _) hs.2)
    simp only [pentaglotref27_Valid.j0, Bool.false_eq_true, if_false]
    rfl
/-! partial assignments -/
def in3 (b : Int) : Bool := decide (0 ≤ b) && decide (b ≤ 2)
def okP (n0 : Int) (gs : List S52) (n2 : Int) (bits : List Int) : Bool := bits.all in3 && (okC n0 gs n2 && ((bits.length : Int) == n0))
theorem partial_loop (n0 : Int) (gs : List S52) (n2 : Int) (hs : Sm gs) (bits : List Int) (hl : bits.length ≤ 9223372036854775807) : ∀ (t : List Int) (i : Nat), bits.drop i = t → i ≤ bits.length →
    Ev (fun k => sat_partial.l0 k bits bits (bits.length : Int) (i : Int) n0 gs n2) (t.all in3 && (okC n0 gs n2 && ((bits.length : Int) == n0))) := by
  intro t
  induction t with
  | nil =>
    intro i h hi
    have := rest_nil hi h
    refine Ev.step (fun k => by simp only [sat_partial.l0]; rw [if_neg (by omega : ¬ (i : Int) < (bits.length : Int))]) (Ev.bind (check n0 gs n2 hs) ?_)
    cases okC n0 gs n2 <;> simp <;> exact Ev.now _
  | cons x t ih =>
    intro i h hi
    obtain ⟨h1, h2, h3⟩ := rest h
    by_cases hx0 : x < 0
    · refine Ev.step (f := fun _ => some false) (fun k => ?_) (by
        rw [List.all_cons, show in3 x = false by unfold in3; simp; omega]
        exact Ev.now _)
      simp only [sat_partial.l0, h2]
      rw [if_pos (by omega), if_pos (by omega), if_pos (by omega), if_pos hx0]
    · by_cases hx1 : x > 2
      · refine Ev.step (f := fun _ => some false) (fun k => ?_) (by
          rw [List.all_cons, show in3 x = false by unfold in3; simp; omega]
          exact Ev.now _)
        simp only [sat_partial.l0, h2]
        rw [if_pos (by omega), if_pos (by omega), if_pos (by omega), if_neg hx0, if_pos hx1]
      · rw [List.all_cons, show in3 x = true by unfold in3; simp; omega, Bool.true_and]
        refine Ev.step (fun k => ?_) (ih (i + 1) h3 (by omega))
        simp only [sat_partial.l0, h2]
        rw [if_pos (by omega), if_pos (by omega), if_pos (by omega), if_neg hx0, if_neg hx1, w64 (by omega) (by omega)]
        rfl
theorem partial' (n0 : Int) (gs : List S52) (n2 : Int) (hs : Sm gs) (bits : List Int) (hl : bits.length ≤ 9223372036854775807) : Ev (fun k => sat_partial.f k n0 gs n2 bits) (okP n0 gs n2 bits) :=
  partial_loop n0 gs n2 hs bits hl bits 0 rfl (Nat.zero_le _)
theorem rpartial_loop (n0 : Int) (gs : List S52) (n2 : Int) (hs : Sm gs) (bits : List Int) (hl : bits.length ≤ 9223372036854775807) : ∀ (t : List Int) (i : Nat), bits.drop i = t → i ≤ bits.length →
    Ev (fun k => pentaglotref28_Partial.l0 k bits bits (bits.length : Int) (i : Int) n0 gs n2) (t.all in3 && (okC n0 gs n2 && ((bits.length : Int) == n0))) := by
  intro t
  induction t with
  | nil =>
    intro i h hi
    have := rest_nil hi h
    refine Ev.step (fun k => by simp only [pentaglotref28_Partial.l0]; rw [if_neg (by omega : ¬ (i : Int) < (bits.length : Int))]) (Ev.bind (valid n0 gs n2 hs) ?_)
    cases okC n0 gs n2 <;> simp <;> exact Ev.now _
  | cons x t ih =>
    intro i h hi
    obtain ⟨h1, h2, h3⟩ := rest h
    by_cases hx0 : x < 0
    · refine Ev.step (f := fun _ => some false) (fun k => ?_) (by
        rw [List.all_cons, show in3 x = false by unfold in3; simp; omega]
        exact Ev.now _)
      simp only [pentaglotref28_Partial.l0, h2]
      rw [if_pos (by omega), if_pos (by omega), if_pos (by omega), if_pos hx0]
    · by_cases hx1 : x > 2
      · refine Ev.step (f := fun _ => some false) (fun k => ?_) (by
          rw [List.all_cons, show in3 x = false by unfold in3; simp; omega]
          exact Ev.now _)
        simp only [pentaglotref28_Partial.l0, h2]
        rw [if_pos (by omega), if_pos (by omega), if_pos (by omega), if_neg hx0, if_pos hx1]
      · rw [List.all_cons, show in3 x = true by unfold in3; simp; omega, Bool.true_and]
        refine Ev.step (fun k => ?_) (ih (i + 1) h3 (by omega))
        simp only [pentaglotref28_Partial.l0, h2]
        rw [if_pos (by omega), if_pos (by omega), if_pos (by omega), if_neg hx0, if_neg hx1, w64 (by omega) (by omega)]
        rfl
theorem rpartial (n0 : Int) (gs : List S52) (n2 : Int) (hs : Sm gs) (bits : List Int) (hl : bits.length ≤ 9223372036854775807) : Ev (fun k => pentaglotref28_Partial.f k n0 gs n2 bits) (okP n0 gs n2 bits) :=
  rpartial_loop n0 gs n2 hs bits hl bits 0 rfl (Nat.zero_le _)
end Go.Proofs.Ytflknolnclnhfaa.Sv
