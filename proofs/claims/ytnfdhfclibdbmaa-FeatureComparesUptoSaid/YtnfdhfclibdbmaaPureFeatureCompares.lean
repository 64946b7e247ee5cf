/- Plain law: Compare returns the specified order of records, a linear order. Condition: the sizes of the arguments sum to at most 1048576. -/
import Derived.Test.YtnfdhfclibdbmaaPx0
import Derived.Test.YtnfdhfclibdbmaaPx7
import Derived.Test.YtnfdhfclibdbmaaPx8
import Derived.Test.YtnfdhfclibdbmaaPx17
import Derived.Test.YtnfdhfclibdbmaaFtS
namespace Go.Proofs.Ytnfdhfclibdbmaa.Ft
open Go
set_option linter.unusedVariables false
set_option linter.unusedSimpArgs false
open Go.RowKit Go.Proofs.Ytnfdhfclibdbmaa.P Go.Proofs.YtnfdhfclibdbmaaW.PrintWords Go.Proofs.YtnfdhfclibdbmaaW.PrintLast
/-- A three-way comparison of a linear order. -/
structure Cmp {α : Type} (c : α → α → Int) : Prop where
  anti : ∀ x y, c y x = - c x y
  zero : ∀ x y, c x y = 0 ↔ x = y
  trans : ∀ x y z, c x y ≤ 0 → c y z ≤ 0 → c x z ≤ 0
  bound : ∀ x y, -1 ≤ c x y ∧ c x y ≤ 1
def ord (x y : Key) : Int := if ls x y = true then -1 else if ls y x = true then 1 else 0
theorem ord_cmp : Cmp ord where
  anti x y := by
    unfold ord
    by_cases h : ls x y = true
    · rw [if_pos h, ls_asymm h, if_neg (by decide), if_pos h]; rfl
    · rw [if_neg h]
      by_cases h' : ls y x = true
      · rw [if_pos h', if_pos h', if_neg h]
      · rw [if_neg h', if_neg h', if_neg h]; rfl
  zero x y := by
    unfold ord
    constructor
    · intro h
      rcases ls_tri x y with h1 | h1 | h1
      · rw [if_pos h1] at h; cases h
      · exact h1
      · rw [ls_asymm h1, if_neg (by decide), if_pos h1] at h; cases h
    · rintro rfl
      rw [ls_irrefl, if_neg (by decide), if_neg (by decide)]
  trans x y z := by
    unfold ord
    intro h1 h2
    by_cases e1 : ls x y = true
    · by_cases e2 : ls y z = true
      · rw [if_pos (ls_trans _ _ _ e1 e2)]; decide
      · rw [if_neg e2] at h2
        by_cases e3 : ls z y = true
        · rw [if_pos e3] at h2; exact absurd h2 (by decide)
        · have : y = z := by rcases ls_tri y z with h | h | h <;> first | exact h | exact absurd h e2 | exact absurd h e3
          rw [← this, if_pos e1]; decide
    · rw [if_neg e1] at h1
      by_cases e3 : ls y x = true
      · rw [if_pos e3] at h1; exact absurd h1 (by decide)
      · have : x = y := by rcases ls_tri x y with h | h | h <;> first | exact h | exact absurd h e1 | exact absurd h e3
        rw [this]; exact h2
  bound x y := by unfold ord; split <;> (try split) <;> decide
def pairC {α β : Type} (c : α → α → Int) (d : β → β → Int) (x y : α × β) : Int := if c x.1 y.1 = 0 then d x.2 y.2 else c x.1 y.1
theorem Cmp.pair {α β : Type} {c : α → α → Int} {d : β → β → Int} (hc : Cmp c) (hd : Cmp d) : Cmp (pairC c d) where
  anti x y := by
    unfold pairC
    have h := hc.anti x.1 y.1
    by_cases e : c x.1 y.1 = 0
    · rw [if_pos e, if_pos (by omega)]; exact hd.anti _ _
    · rw [if_neg e, if_neg (by omega)]; exact h
  zero x y := by
    unfold pairC
    by_cases e : c x.1 y.1 = 0
    · rw [if_pos e, hd.zero]
      have := (hc.zero _ _).1 e
      constructor
      · intro h; exact Prod.ext this h
      · rintro rfl; rfl
    · rw [if_neg e]
      constructor
      · intro h; exact absurd h e
      · rintro rfl; exact absurd ((hc.zero _ _).2 rfl) e
  trans x y z := by
    unfold pairC
    intro h1 h2
    by_cases e1 : c x.1 y.1 = 0
    · rw [if_pos e1] at h1
      have q1 := (hc.zero _ _).1 e1
      by_cases e2 : c y.1 z.1 = 0
      · rw [if_pos e2] at h2
        have q2 := (hc.zero _ _).1 e2
        rw [if_pos ((hc.zero _ _).2 (q1.trans q2))]
        exact hd.trans _ _ _ h1 h2
      · rw [if_neg e2] at h2
        rw [q1, if_neg e2]; exact h2
    · rw [if_neg e1] at h1
      by_cases e2 : c y.1 z.1 = 0
      · have q2 := (hc.zero _ _).1 e2
        rw [← q2, if_neg e1]; exact h1
      · rw [if_neg e2] at h2
        have h3 := hc.trans _ _ _ h1 h2
        have e3 : ¬ c x.1 z.1 = 0 := fun e3 => by
          have q := (hc.zero _ _).1 e3
          rw [← q, hc.anti x.1 y.1] at h2
          omega
        rw [if_neg e3]; exact h3
  bound x y := by unfold pairC; split <;> first | exact hd.bound _ _ | exact hc.bound _ _
def listC {α : Type} (c : α → α → Int) : List α → List α → Int
  | [], [] => 0
  | [], _ :: _ => -1
  | _ :: _, [] => 1
  | x :: a, y :: b => if c x y = 0 then listC c a b else c x y
theorem Cmp.list {α : Type} {c : α → α → Int} (hc : Cmp c) : Cmp (listC c) where
  anti x := by
    induction x with
    | nil => intro y; cases y <;> rfl
    | cons x a ih =>
      intro y
      cases y with
      | nil => rfl
      | cons y b =>
        simp only [listC]
        have h := hc.anti x y
        by_cases e : c x y = 0
        · rw [if_pos e, if_pos (by omega)]; exact ih b
        · rw [if_neg e, if_neg (by omega)]; exact h
  zero x := by
    induction x with
    | nil => intro y; cases y <;> simp [listC]
    | cons x a ih =>
      intro y
      cases y with
      | nil => simp [listC]
      | cons y b =>
        simp only [listC]
        by_cases e : c x y = 0
        · rw [if_pos e, ih, (hc.zero _ _).1 e]; simp
        · rw [if_neg e]
          constructor
          · intro h; exact absurd h e
          · intro h
            injection h with h1 h2
            exact absurd ((hc.zero _ _).2 h1) e
  trans x := by
    induction x with
    | nil => intro y z _ _; cases z <;> simp [listC]
    | cons x a ih =>
      intro y z h1 h2
      cases y with
      | nil => simp [listC] at h1
      | cons y b =>
        cases z with
        | nil => simp [listC] at h2
        | cons z d =>
          simp only [listC] at h1 h2 ⊢
          by_cases e1 : c x y = 0
          · rw [if_pos e1] at h1
            have q1 := (hc.zero _ _).1 e1
            by_cases e2 : c y z = 0
            · rw [if_pos e2] at h2
              rw [if_pos ((hc.zero _ _).2 (q1.trans ((hc.zero _ _).1 e2)))]
              exact ih _ _ h1 h2
            · rw [if_neg e2] at h2
              rw [q1, if_neg e2]; exact h2
          · rw [if_neg e1] at h1
            by_cases e2 : c y z = 0
            · rw [← (hc.zero _ _).1 e2, if_neg e1]; exact h1
            · rw [if_neg e2] at h2
              have h3 := hc.trans _ _ _ h1 h2
              have e3 : ¬ c x z = 0 := fun e3 => by
                rw [← (hc.zero _ _).1 e3, hc.anti x y] at h2
                omega
              rw [if_neg e3]; exact h3
  bound x := by
    induction x with
    | nil => intro y; cases y <;> simp [listC]
    | cons x a ih =>
      intro y
      cases y with
      | nil => simp [listC]
      | cons y b => simp only [listC]; split <;> first | exact ih b | exact hc.bound _ _
def cmpR : Rec → Rec → Int := listC (pairC ord ord)
theorem cmpR_cmp : Cmp cmpR := (ord_cmp.pair ord_cmp).list
theorem ccs (x y : ByteArray) : cmp_Compare_string.f x y = some (ord x.toList y.toList) := by
  unfold cmp_Compare_string.f cmp_isNaN_string.f ord
  simp only [bne_self_eq_false, Option.bind_some, Bool.false_eq_true, if_false]
  by_cases h : ls x.toList y.toList = true
  · rw [if_pos h, if_pos (show Op.bytesLess _ _ = true from h)]
  · rw [if_neg h, if_neg (show ¬ Op.bytesLess _ _ = true from h)]
    by_cases h' : ls y.toList x.toList = true
    · rw [if_pos h', if_pos (show Op.bytesLess _ _ = true from h')]
    · rw [if_neg h', if_neg (show ¬ Op.bytesLess _ _ = true from h')]
theorem rord (x y : ByteArray) : pentaglotref02_order.f x y = some (ord x.toList y.toList) := by
  unfold pentaglotref02_order.f ord
  by_cases h : ls x.toList y.toList = true
  · rw [if_pos h, if_pos (show Op.bytesLess _ _ = true from h)]
  · rw [if_neg h, if_neg (show ¬ Op.bytesLess _ _ = true from h)]
    by_cases h' : ls y.toList x.toList = true
    · rw [if_pos h', if_pos (show Op.bytesLess _ _ = true from h')]
    · rw [if_neg h', if_neg (show ¬ Op.bytesLess _ _ = true from h')]
theorem cmp1 (x y : S33) : feature_cmp1 x y = some (pairC ord ord (im x) (im y)) := by
  have e : pairC ord ord (im x) (im y) = if ord x.f0.toList y.f0.toList = 0 then ord x.f1.toList y.f1.toList else ord x.f0.toList y.f0.toList := rfl
  rw [e]
  unfold feature_cmp1
  rw [ccs, ccs]
  simp only [Option.bind_some]
  by_cases h : ord x.f0.toList y.f0.toList = 0
  · rw [if_pos h, if_pos h]
  · rw [if_neg h, if_neg h]
theorem compare : ∀ a b : List S33, feature_Compare.f a b = some (cmpR (ims a) (ims b))
  | [], [] => rfl
  | [], _ :: _ => rfl
  | _ :: _, [] => rfl
  | x :: a, y :: b => by
    have ih := compare a b
    unfold feature_Compare.f at ih ⊢
    rw [feature_cmpf, cmp1]
    simp only [Option.bind_some]
    rw [ims_cons, ims_cons]
    unfold cmpR at ih ⊢
    rw [listC]
    by_cases e : pairC ord ord (im x) (im y) = 0
    · rw [if_pos e, if_pos e]; exact ih
    · rw [if_neg e, if_neg e]
theorem rcompare_loop (a b : List S33) (hlen : a.length + b.length ≤ 4000000) : ∀ (A : List S33) (i : Nat) (B : List S33), a.drop i = A → b.drop i = B → i ≤ a.length → i ≤ b.length → Ev (fun z => pentaglotref02_Compare.l0 z a b (i : Int)) (cmpR (ims A) (ims B)) := by
  intro A
  induction A with
  | nil =>
    intro i B hA hB hi hk
    have ei := rest_nil hi hA
    refine Ev.step (f := fun z => pentaglotref02_Compare.j1 z a b i false) (fun z => ?_) ?_
    · simp only [pentaglotref02_Compare.l0]
      rw [if_neg (by omega)]
    cases B with
    | nil =>
      have ek := rest_nil hk hB
      refine Ev.step (f := fun _ => some 0) (fun z => ?_) (Ev.now _)
      simp only [pentaglotref02_Compare.j1]
      rw [if_neg (by decide), if_neg (by omega), if_neg (by omega)]
    | cons y B =>
      obtain ⟨hk', hy, _⟩ := rest hB
      refine Ev.step (f := fun _ => some (-1)) (fun z => ?_) (Ev.now _)
      simp only [pentaglotref02_Compare.j1]
      rw [if_neg (by decide), if_pos (by omega)]
  | cons x A ih =>
    intro i B hA hB hi hk
    obtain ⟨hi', hx, hA'⟩ := rest hA
    cases B with
    | nil =>
      have ek := rest_nil hk hB
      refine Ev.step (f := fun z => pentaglotref02_Compare.j1 z a b i false) (fun z => ?_) (Ev.step (f := fun _ => some 1) (fun z => ?_) (Ev.now _))
      · simp only [pentaglotref02_Compare.l0]
        rw [if_pos (by omega), decide_eq_false (by omega)]
      · simp only [pentaglotref02_Compare.j1]
        rw [if_neg (by decide), if_neg (by omega), if_pos (by omega)]
    | cons y B =>
      obtain ⟨hk', hy, hB'⟩ := rest hB
      have ih' := ih (i + 1) B hA' hB' (by omega) (by omega)
      rw [ims_cons, ims_cons]
      have e2 : wrap64 ((i : Int) + 1) = ((i + 1 : Nat) : Int) := by rw [w64 (by omega) (by omega)]; omega
      refine Ev.step (f := fun z => pentaglotref02_Compare.j1 z a b i true) (fun z => ?_) (Ev.step (f := fun z => (if x.f0.toList = y.f0.toList then (if x.f1.toList = y.f1.toList then (pentaglotref02_Compare.l0 z a b ((i + 1 : Nat) : Int)) else ((pentaglotref02_order.f x.f1 y.f1).bind fun t351 => (some t351))) else ((pentaglotref02_order.f x.f0 y.f0).bind fun t354 => (some t354)))) (fun z => ?_) ?_)
      · simp only [pentaglotref02_Compare.l0]
        rw [if_pos (by omega), decide_eq_true (by omega)]
      · simp only [pentaglotref02_Compare.j1]
        rw [if_pos trivial, if_pos (by omega), if_pos (by omega), if_pos (by omega), hx, hy, e2]
      · unfold cmpR
        rw [listC]
        by_cases e0 : x.f0.toList = y.f0.toList
        · by_cases e1 : x.f1.toList = y.f1.toList
          · have : im x = im y := Prod.ext e0 e1
            rw [if_pos (((ord_cmp.pair ord_cmp).zero _ _).2 this)]
            refine Ev.congr (fun z => ?_) ih'
            rw [if_pos e0, if_pos e1]
          · have hp : pairC ord ord (im x) (im y) = ord x.f1.toList y.f1.toList := by
              show (if ord x.f0.toList y.f0.toList = 0 then ord x.f1.toList y.f1.toList else ord x.f0.toList y.f0.toList) = _
              rw [if_pos ((ord_cmp.zero _ _).2 e0)]
            rw [hp, if_neg (fun h => e1 ((ord_cmp.zero _ _).1 h))]
            refine Ev.congr (fun z => ?_) (Ev.now _)
            rw [if_pos e0, if_neg e1, rord]
            rfl
        · have hp : pairC ord ord (im x) (im y) = ord x.f0.toList y.f0.toList := by
            show (if ord x.f0.toList y.f0.toList = 0 then ord x.f1.toList y.f1.toList else ord x.f0.toList y.f0.toList) = _
            rw [if_neg (fun h => e0 ((ord_cmp.zero _ _).1 h))]
          rw [hp, if_neg (fun h => e0 ((ord_cmp.zero _ _).1 h))]
          refine Ev.congr (fun z => ?_) (Ev.now _)
          rw [if_neg e0, rord]
          rfl
theorem rcompare (a b : List S33) (hlen : a.length + b.length ≤ 4000000) : Ev (fun z => pentaglotref02_Compare.f z a b) (cmpR (ims a) (ims b)) := rcompare_loop a b hlen a 0 b rfl rfl (Nat.zero_le _) (Nat.zero_le _)
end Go.Proofs.Ytnfdhfclibdbmaa.Ft
namespace Go.Proofs.Ytnfdhfclibdbmaa.Pure
set_option linter.unusedVariables false
set_option linter.unusedSimpArgs false
open Go.RowKit Go.Proofs.Ytnfdhfclibdbmaa.P Go.Proofs.Ytnfdhfclibdbmaa.Ft Go.Proofs.YtnfdhfclibdbmaaW.PrintWords Go.Proofs.YtnfdhfclibdbmaaW.PrintLast
theorem FeatureCompares : pentaglotlaw02_FeatureCompares.Pure := by
  intro a b c _ _ _ hs
  have la := len_bulk a
  have lb := len_bulk b
  have lc := len_bulk c
  apply Ev.rounds
  unfold pentaglotlaw02_FeatureCompares.f
  obtain ⟨r1, h1, m1⟩ := record a (by omega)
  obtain ⟨r2, h2, m2⟩ := record b (by omega)
  obtain ⟨r3, h3, m3⟩ := record c (by omega)
  have out : Ev (fun z => pentaglotlaw02_FeatureCompares.j0 z a b c true) true := by
    refine Ev.step (f := fun _ => some true) (fun z => ?_) (Ev.now _)
    simp only [pentaglotlaw02_FeatureCompares.j0, if_true]
  refine Ev.bind awake ?_
  simp only [if_true]
  refine Ev.bind h1 ?_
  cases r1 with
  | false => simp only [Bool.false_eq_true, if_false]; exact out
  | true =>
  simp only [if_true]
  refine Ev.bind h2 ?_
  cases r2 with
  | false => simp only [Bool.false_eq_true, if_false]; exact out
  | true =>
  simp only [if_true]
  refine Ev.bind h3 ?_
  cases r3 with
  | false => exact out
  | true =>
  have hx := rcompare a b (by omega)
  have hsame := same a b (by omega)
  have C := cmpR_cmp
  have bx := C.bound (ims a) (ims b)
  have ant := C.anti (ims a) (ims b)
  have ez := C.zero (ims a) (ims b)
  have ey := C.zero (ims b) (ims c)
  have ew := C.zero (ims a) (ims c)
  have tr := C.trans (ims a) (ims b) (ims c)
  have ant2 := C.anti (ims a) (ims b)
  have back : cmpR (ims a) (ims c) = 0 → cmpR (ims b) (ims c) = - cmpR (ims a) (ims b) := fun h => by rw [← ew.1 h]; exact ant
  refine Ev.step (fun z => by simp only [pentaglotlaw02_FeatureCompares.j0, Bool.not_true, Bool.false_eq_true, if_false, compare, Option.bind_some]; rfl) (Ev.bind hx ?_)
  simp only [if_true]
  have e64 : wrap64 (- cmpR (ims a) (ims b)) = - cmpR (ims a) (ims b) := w64 (by omega) (by omega)
  rw [e64, ant]
  simp only [if_true]
  refine Ev.bind hsame ?_
  have e0 : (cmpR (ims a) (ims b) == 0) = decide (ims a = ims b) := by
    rw [Bool.eq_iff_iff, beq_iff_eq, decide_eq_true_eq]
    exact ez
  rw [e0]
  simp only [bne_self_eq_false, Bool.false_eq_true, if_false]
  refine Ev.congr (fun z => ?_) (Ev.now true)
  by_cases p1 : cmpR (ims a) (ims b) > 0
  · rw [if_pos p1]
  · rw [if_neg p1]
    by_cases p2 : cmpR (ims b) (ims c) > 0
    · rw [if_pos p2]
    · rw [if_neg p2, if_pos (tr (by omega) (by omega))]
      by_cases p3 : cmpR (ims a) (ims b) = 0
      · rw [if_pos p3]
        have : (cmpR (ims b) (ims c) == 0) = (cmpR (ims a) (ims c) == 0) := by rw [ez.1 p3]
        rw [this]
        simp
      · rw [if_neg p3]
        have : (cmpR (ims a) (ims c) == 0) = false := by
          rw [beq_eq_false_iff_ne]
          intro h
          have := back h
          omega
        rw [this]
        rfl
end Go.Proofs.Ytnfdhfclibdbmaa.Pure
