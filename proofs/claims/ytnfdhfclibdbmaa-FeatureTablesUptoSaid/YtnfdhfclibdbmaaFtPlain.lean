/- Plain lists with keys: the order of bytes; lists strictly ascending by key; looking up; two such lists with the same look-ups are one; merging. No program in sight. -/
import GoSem.Op.String
namespace Go.Proofs.Ytnfdhfclibdbmaa.Ft
open Go
set_option linter.unusedVariables false
set_option linter.unusedSimpArgs false

abbrev Key := List UInt8
def ls (x y : Key) : Bool := Op.bytesLess x y
theorem ls_irrefl : ∀ x : Key, ls x x = false
  | [] => rfl
  | a :: x => by
    have := ls_irrefl x
    simp only [ls] at this ⊢
    simp [Op.bytesLess, this]
theorem ls_trans : ∀ x y z : Key, ls x y = true → ls y z = true → ls x z = true
  | _, _, [], _, h => by simp [ls, Op.bytesLess] at h
  | _, [], _ :: _, h, _ => by simp [ls, Op.bytesLess] at h
  | [], _ :: _, _ :: _, _, _ => by simp [ls, Op.bytesLess]
  | a :: x, b :: y, c :: z, h1, h2 => by
    have ih := ls_trans x y z
    simp only [ls] at h1 h2 ih ⊢
    simp only [Op.bytesLess, Bool.or_eq_true, decide_eq_true_eq, Bool.and_eq_true, beq_iff_eq] at h1 h2 ⊢
    rcases h1 with h1 | ⟨rfl, h1⟩
    · rcases h2 with h2 | ⟨rfl, h2⟩
      · exact .inl (UInt8.lt_trans h1 h2)
      · exact .inl h1
    · rcases h2 with h2 | ⟨rfl, h2⟩
      · exact .inl h2
      · exact .inr ⟨rfl, ih h1 h2⟩
theorem ls_tri : ∀ x y : Key, ls x y = true ∨ x = y ∨ ls y x = true
  | [], [] => .inr (.inl rfl)
  | [], _ :: _ => .inl rfl
  | _ :: _, [] => .inr (.inr rfl)
  | a :: x, b :: y => by
    have ih := ls_tri x y
    simp only [ls] at ih ⊢
    simp only [Op.bytesLess, Bool.or_eq_true, decide_eq_true_eq, Bool.and_eq_true, beq_iff_eq]
    rcases Nat.lt_trichotomy a.toNat b.toNat with h | h | h
    · exact .inl (.inl (UInt8.lt_iff_toNat_lt.2 h))
    · have : a = b := UInt8.toNat_inj.1 h
      subst this
      rcases ih with ih | rfl | ih
      · exact .inl (.inr ⟨rfl, ih⟩)
      · exact .inr (.inl rfl)
      · exact .inr (.inr (.inr ⟨rfl, ih⟩))
    · exact .inr (.inr (.inl (UInt8.lt_iff_toNat_lt.2 h)))
theorem ls_asymm {x y : Key} (h : ls x y = true) : ls y x = false := by
  cases h2 : ls y x with
  | false => rfl
  | true =>
    have := ls_trans x y x h h2
    rw [ls_irrefl] at this
    cases this
theorem ls_ne {x y : Key} (h : ls x y = true) : x ≠ y := by
  rintro rfl
  rw [ls_irrefl] at h
  cases h
theorem ls_not {x y : Key} (h : ls x y = false) (hn : x ≠ y) : ls y x = true := by
  rcases ls_tri x y with h1 | h1 | h1
  · rw [h] at h1; cases h1
  · exact absurd h1 hn
  · exact h1

abbrev Rec := List (Key × Key)
/-- Strictly ascending by key. -/
def Asc : Rec → Prop
  | [] => True
  | x :: l => (∀ y ∈ l, ls x.1 y.1 = true) ∧ Asc l
def get : Rec → Key → Option Key
  | [], _ => none
  | x :: l, k => if x.1 = k then some x.2 else get l k
theorem get_none {l : Rec} {k : Key} (h : ∀ y ∈ l, y.1 ≠ k) : get l k = none := by
  induction l with
  | nil => rfl
  | cons x l ih =>
    unfold get
    rw [if_neg (h x (List.mem_cons_self))]
    exact ih (fun y hy => h y (List.mem_cons_of_mem _ hy))
theorem get_mem {l : Rec} {k v : Key} (h : get l k = some v) : (k, v) ∈ l := by
  induction l with
  | nil => cases h
  | cons x l ih =>
    unfold get at h
    by_cases e : x.1 = k
    · rw [if_pos e] at h
      injection h with h
      rw [← e, ← h]
      exact List.mem_cons_self
    · rw [if_neg e] at h
      exact List.mem_cons_of_mem _ (ih h)
theorem mem_get {l : Rec} (ha : Asc l) {k v : Key} (h : (k, v) ∈ l) : get l k = some v := by
  induction l with
  | nil => cases h
  | cons x l ih =>
    unfold get
    rcases List.mem_cons.1 h with rfl | h
    · rw [if_pos rfl]
    · rw [if_neg (fun e => by
        have := ha.1 _ h
        rw [e, ls_irrefl] at this
        cases this)]
      exact ih ha.2 h
theorem get_lt {l : Rec} {k : Key} (h : ∀ y ∈ l, ls k y.1 = true) : get l k = none :=
  get_none (fun y hy e => by have := h y hy; rw [e, ls_irrefl] at this; cases this)
/-- Two ascending lists with the same look-ups are one. -/
theorem asc_ext : ∀ {a b : Rec}, Asc a → Asc b → (∀ k, get a k = get b k) → a = b
  | [], [], _, _, _ => rfl
  | [], y :: b, _, _, h => by
    have := h y.1
    simp [get] at this
  | x :: a, [], _, _, h => by
    have := h x.1
    simp [get] at this
  | x :: a, y :: b, ha, hb, h => by
    have hxy : x.1 = y.1 := by
      rcases ls_tri x.1 y.1 with h1 | h1 | h1
      · have := h x.1
        rw [get, if_pos rfl, get, if_neg (ls_ne h1).symm, get_lt (fun z hz => ls_trans _ _ _ h1 (hb.1 z hz))] at this
        cases this
      · exact h1
      · have := h y.1
        rw [get, if_neg (ls_ne h1).symm, get_lt (fun z hz => ls_trans _ _ _ h1 (ha.1 z hz)), get, if_pos rfl] at this
        cases this
    have hv : x.2 = y.2 := by
      have := h x.1
      rw [get, if_pos rfl, get, if_pos hxy.symm] at this
      injection this
    have he : x = y := Prod.ext hxy hv
    subst he
    congr 1
    refine asc_ext ha.2 hb.2 (fun k => ?_)
    by_cases e : x.1 = k
    · rw [← e, get_lt ha.1, get_lt hb.1]
    · have := h k
      rwa [get, if_neg e, get, if_neg e] at this
theorem get_append (a b : Rec) (k : Key) : get (a ++ b) k = (get a k).or (get b k) := by
  induction a with
  | nil => simp [get]
  | cons x a ih =>
    simp only [List.cons_append, get]
    by_cases e : x.1 = k
    · rw [if_pos e, if_pos e]; rfl
    · rw [if_neg e, if_neg e]; exact ih
theorem asc_append {a b : Rec} : Asc (a ++ b) ↔ Asc a ∧ Asc b ∧ ∀ x ∈ a, ∀ y ∈ b, ls x.1 y.1 = true := by
  induction a with
  | nil => simp [Asc]
  | cons x a ih =>
    simp only [List.cons_append, Asc, ih, List.mem_append, List.mem_cons]
    constructor
    · rintro ⟨h1, h2, h3, h4⟩
      refine ⟨⟨fun y hy => h1 y (.inl hy), h2⟩, h3, ?_⟩
      rintro z (rfl | hz) y hy
      · exact h1 y (.inr hy)
      · exact h4 z hz y hy
    · rintro ⟨⟨h1, h2⟩, h3, h4⟩
      refine ⟨?_, h2, h3, fun z hz y hy => h4 z (.inr hz) y hy⟩
      rintro y (hy | hy)
      · exact h1 y hy
      · exact h4 x (.inl rfl) y hy
theorem asc_snoc {a : Rec} {x : Key × Key} (h : Asc a) (hx : ∀ y ∈ a, ls y.1 x.1 = true) : Asc (a ++ [x]) :=
  asc_append.2 ⟨h, ⟨by simp, trivial⟩, fun y hy z hz => by rw [List.mem_singleton.1 hz]; exact hx y hy⟩
/-- No key has two values. -/
def Fit (a b : Rec) : Prop := ∀ k v w, get a k = some v → get b k = some w → v = w
theorem fit_symm {a b : Rec} (h : Fit a b) : Fit b a := fun k v w h1 h2 => (h k w v h2 h1).symm
/-- m is the union of a and b. -/
def IsU (a b m : Rec) : Prop := Asc m ∧ ∀ k, get m k = (get a k).or (get b k)
theorem isU_unique {a b m n : Rec} (h1 : IsU a b m) (h2 : IsU a b n) : m = n := asc_ext h1.1 h2.1 (fun k => (h1.2 k).trans (h2.2 k).symm)
theorem or_comm_fit {a b : Rec} (h : Fit a b) (k : Key) : (get a k).or (get b k) = (get b k).or (get a k) := by
  cases h1 : get a k with
  | none => cases h2 : get b k <;> rfl
  | some v =>
    cases h2 : get b k with
    | none => rfl
    | some w => rw [h k v w h1 h2]
theorem isU_comm {a b m : Rec} (h : Fit a b) (hm : IsU b a m) : IsU a b m := ⟨hm.1, fun k => (hm.2 k).trans (or_comm_fit h k).symm⟩
/-- Every look-up of a is one of b. -/
def Sub (a b : Rec) : Prop := ∀ k v, get a k = some v → get b k = some v
theorem sub_refl (a : Rec) : Sub a a := fun _ _ h => h
theorem sub_trans {a b c : Rec} (h1 : Sub a b) (h2 : Sub b c) : Sub a c := fun k v h => h2 k v (h1 k v h)
theorem sub_nil (a : Rec) : Sub [] a := fun k v h => by cases h
theorem sub_antisymm {a b : Rec} (ha : Asc a) (hb : Asc b) (h1 : Sub a b) (h2 : Sub b a) : a = b := by
  refine asc_ext ha hb (fun k => ?_)
  cases h : get a k with
  | some v => rw [h1 k v h]
  | none =>
    cases h' : get b k with
    | none => rfl
    | some v => rw [h2 k v h'] at h; cases h
theorem sub_iff_isU {a b : Rec} (hb : Asc b) : Sub a b ↔ Fit a b ∧ IsU a b b := by
  constructor
  · intro h
    refine ⟨fun k v w h1 h2 => by rw [h k v h1] at h2; injection h2, hb, fun k => ?_⟩
    cases h1 : get a k with
    | none => rfl
    | some v => rw [h k v h1]; rfl
  · rintro ⟨_, _, h⟩ k v h1
    rw [h k, h1]; rfl
theorem isU_sub {a b m : Rec} (h : IsU a b m) : Sub a m := fun k v h1 => by rw [h.2 k, h1]; rfl
theorem isU_sub' {a b m : Rec} (hf : Fit a b) (h : IsU a b m) : Sub b m := fun k v h1 => by
  rw [h.2 k, or_comm_fit hf k, h1]; rfl
end Go.Proofs.Ytnfdhfclibdbmaa.Ft
