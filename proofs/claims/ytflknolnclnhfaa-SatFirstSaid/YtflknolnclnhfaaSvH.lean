/- Plain facts: what the search of Least finds is the first satisfying assignment that agrees with the fixed inputs. -/
import Derived.Test.YtflknolnclnhfaaPx0
import Derived.Test.YtflknolnclnhfaaPx4
import Derived.Test.YtflknolnclnhfaaPx9
import Derived.Test.YtflknolnclnhfaaPx16
import Derived.Test.YtflknolnclnhfaaSvF
namespace Go.Proofs.Ytflknolnclnhfaa.Sv
set_option linter.unusedVariables false
set_option linter.unusedSimpArgs false
open Go.RowKit Go.Proofs.Ytflknolnclnhfaa.P Go.Proofs.YtflknolnclnhfaaW.PrintWords Go.Proofs.YtflknolnclnhfaaW.PrintLast
theorem rd_set {l : List Int} {i : Nat} (hi : i < l.length) (v : Int) (j : Int) : rd (l.set i v) j = if j.toNat = i then v else rd l j := by
  unfold rd
  rw [List.getD_eq_getElem?_getD, List.getD_eq_getElem?_getD, List.getElem?_set]
  by_cases h : i = j.toNat
  · rw [if_pos h, if_pos h.symm, if_pos (by omega)]
    rfl
  · rw [if_neg h, if_neg (fun e => h e.symm)]
theorem rd_nat {l : List Int} {i j : Int} (h : i.toNat = j.toNat) : rd l i = rd l j := by unfold rd; rw [h]
theorem Ref.set {l : List Int} {m : Int} (h0 : 0 ≤ m) (h1 : m < (l.length : Int)) (h2 : rd l m = 2) (v : Int) : Ref l (l.set m.toNat v) := by
  refine ⟨by rw [List.length_set], fun i hi => ?_⟩
  rw [rd_set (by omega)]
  by_cases e : i.toNat = m.toNat
  · exact absurd ((rd_nat e).trans h2) hi
  · rw [if_neg e]
theorem Ref.put {l y : List Int} {m : Int} (h0 : 0 ≤ m) (h1 : m < (l.length : Int)) (h : Ref l y) {v : Int} (hv : rd y m = v) : Ref (l.set m.toNat v) y := by
  refine ⟨by rw [List.length_set]; exact h.1, fun i hi => ?_⟩
  rw [rd_set (by omega)] at hi ⊢
  by_cases e : i.toNat = m.toNat
  · rw [if_pos e]; exact (rd_nat e).trans hv
  · rw [if_neg e] at hi ⊢; exact h.2 i hi
/-- The relevant unknown inputs. -/
def RelIn (gs : List S52) (bits : List Int) (r : Nat) (j : Int) : Prop := ∃ i, Rch gs (valsG bits gs []) r i ∧ rd (valsG bits gs []) i = 2 ∧ (rd_T52 gs i).f0 = 3 ∧ j = (rd_T52 gs i).f1
theorem two_back {vs vs' : List Int} (h : Ref vs vs') {i : Int} (h2 : rd vs' i = 2) : rd vs i = 2 := by
  by_cases e : rd vs i = 2
  · exact e
  · exact (h.2 i e).symm.trans h2
theorem Rch.ref {gs : List S52} {vs vs' : List Int} (h : Ref vs vs') {r i : Nat} (hr : Rch gs vs' r i) : Rch gs vs r i := by
  induction hr with
  | root => exact .root
  | kid hr h2 hk ih => exact .kid ih (two_back h h2) hk
theorem RelIn.ref {gs : List S52} {bits bits' : List Int} (h : Ref bits bits') {r : Nat} {j : Int} (hr : RelIn gs bits' r j) : RelIn gs bits r j := by
  obtain ⟨i, h1, h2, h3, h4⟩ := hr
  have hv := valsG_stay h gs [] [] (Ref.refl _)
  exact ⟨i, h1.ref hv, two_back hv h2, h3, h4⟩
def Bin (y : List Int) : Prop := ∀ i : Int, rd y i = 0 ∨ rd y i = 1
/-- y comes before what b stands for. -/
def Before (y b : List Int) : Prop := ∃ j : Nat, (∀ i : Nat, i < j → rd y i = if rd b i = 1 then 1 else 0) ∧ rd y j = 0 ∧ rd b j = 1
theorem Srch.least {n0 : Int} {gs : List S52} {n2 : Int} (hc : okC n0 gs n2 = true) {bits : List Int} {r : Option (List Int)} {c : Nat} (hr : Srch gs n0 n2 bits r c) : Tri bits → (bits.length : Int) = n0 →
    (r = none → ∀ y, Bin y → Ref bits y → out3 gs n2 y ≠ 1) ∧
    (∀ b, r = some b → Ref bits b ∧ (∀ j : Nat, rd b j ≠ rd bits j → RelIn gs bits n2.toNat j) ∧ ∀ y, Bin y → Ref bits y → out3 gs n2 y = 1 → ¬ Before y b) := by
  induction hr with
  | @no bits h0 =>
    intro ht hl
    refine ⟨fun _ y _ hy => ?_, fun b hb => by cases hb⟩
    rw [out3_stay hy gs n2 (by rw [h0]; decide), h0]
    decide
  | @yes bits h1 =>
    intro ht hl
    refine ⟨fun h => by (cases h), fun b hb => ?_⟩
    obtain rfl := Option.some.inj hb
    refine ⟨Ref.refl _, fun j hj => absurd rfl hj, fun y _ hy _ => ?_⟩
    rintro ⟨j, _, j2, j3⟩
    have := hy.2 j (by rw [j3]; decide)
    omega
  | @left bits m b c h2 hm hr ih =>
    intro ht hl
    obtain ⟨m0, m1, m2⟩ := first_at hc ht h2 hm
    have hset := Ref.set m0 (by omega) m2 0
    obtain ⟨_, ih⟩ := ih (tri_set ht _ (by decide) (by decide)) (by rw [List.length_set]; exact hl)
    obtain ⟨i1, i2, i3⟩ := ih b rfl
    have hbm : rd b m = 0 := by
      have := i1.2 m (by rw [rd_set (by omega), if_pos rfl]; decide)
      rwa [rd_set (by omega), if_pos rfl] at this
    have rel : ∀ j : Nat, rd b j ≠ rd bits j → RelIn gs bits n2.toNat j := fun j hj => by
      by_cases e : (j : Int) = m
      · rw [e]
        rcases hm.2 with e' | ⟨i, a1, a2, a3, a4⟩
        · omega
        · exact ⟨i, a1, a2, a3, a4⟩
      · exact (i2 j (by rw [rd_set (by omega), if_neg (by omega)]; exact hj)).ref hset
    refine ⟨fun h => by (cases h), fun b' hb => ?_⟩
    obtain rfl := Option.some.inj hb
    refine ⟨hset.trans i1, rel, fun y hy hyr ho => ?_⟩
    rcases hy m with hv | hv
    · exact i3 y hy (hyr.put m0 (by omega) hv) ho
    · rintro ⟨j, j1, j2, j3⟩
      have hmn : ((m.toNat : Nat) : Int) = m := Int.toNat_of_nonneg m0
      rcases Int.lt_or_le (j : Int) m with hlt | hle
      · by_cases e : rd b j = rd bits j
        · have := hyr.2 j (by rw [← e, j3]; decide)
          omega
        · obtain ⟨i, a1, a2, a3, a4⟩ := rel j e
          have := hm.1 i a1 a2 a3
          omega
      · by_cases e : (j : Int) = m
        · rw [e] at j2; omega
        · have := j1 m.toNat (by omega)
          rw [hmn, hbm, if_neg (by decide)] at this
          omega
  | @right bits m r c c' h2 hm hr hr' ih ih' =>
    intro ht hl
    obtain ⟨m0, m1, m2⟩ := first_at hc ht h2 hm
    have hset := Ref.set m0 (by omega) m2 1
    obtain ⟨ih, _⟩ := ih (tri_set ht _ (by decide) (by decide)) (by rw [List.length_set]; exact hl)
    obtain ⟨ih1, ih2⟩ := ih' (tri_set ht _ (by decide) (by decide)) (by rw [List.length_set]; exact hl)
    refine ⟨fun h y hy hyr => ?_, fun b hb => ?_⟩
    · rcases hy m with hv | hv
      · exact ih rfl y hy (hyr.put m0 (by omega) hv)
      · exact ih1 h y hy (hyr.put m0 (by omega) hv)
    · obtain ⟨i1, i2, i3⟩ := ih2 b hb
      refine ⟨hset.trans i1, fun j hj => ?_, fun y hy hyr ho => ?_⟩
      · by_cases e : (j : Int) = m
        · rw [e]
          rcases hm.2 with e' | ⟨i, a1, a2, a3, a4⟩
          · omega
          · exact ⟨i, a1, a2, a3, a4⟩
        · exact (i2 j (by rw [rd_set (by omega), if_neg (by omega)]; exact hj)).ref hset
      · rcases hy m with hv | hv
        · exact absurd ho (ih rfl y hy (hyr.put m0 (by omega) hv))
        · exact i3 y hy (hyr.put m0 (by omega) hv) ho
/-! the numbers of the assignments -/
theorem div_pow (N s : Nat) : N / 2 ^ (s + 1) = N / 2 / 2 ^ s := by rw [Nat.pow_succ, Nat.mul_comm, ← Nat.div_div_eq_div_mul]
theorem sub_a {m d s i : Nat} (hs : m - (d + 1) = s) (hd : d + 1 ≤ m) (hi : i < d) : m - 1 - i = (s + 1) + (d - 1 - i) := by omega
theorem sub_b {m d s : Nat} (hs : m - (d + 1) = s) (hd : d + 1 ≤ m) : m - 1 - d = s := by omega
theorem sub_c {m d s : Nat} (hs : m - (d + 1) = s) (hd : d + 1 ≤ m) : m - d = s + 1 := by omega
theorem bitsG_onto : ∀ (m : Nat) (x : List Bool), x.length = m → ∃ p, p < 2 ^ m ∧ bitsG m p = x.map b2i
  | 0, x, h => ⟨0, by decide, by rw [List.length_eq_zero_iff.1 h]; rfl⟩
  | m + 1, x, h => by
    have hne : x ≠ [] := fun e => by rw [e] at h; cases h
    obtain ⟨p, hp, e⟩ := bitsG_onto m x.dropLast (by rw [List.length_dropLast]; omega)
    have hx := List.dropLast_concat_getLast hne
    have snoc : ∀ v : Nat, v < 2 → bitsG (m + 1) (2 * p + v) = bitsG m p ++ [(v : Int)] := fun v hv => by
      unfold bitsG
      rw [List.range_succ, List.map_append]
      congr 1
      · refine List.map_congr_left (fun i hi => ?_)
        have hi := List.mem_range.1 hi
        unfold bitG
        rw [show m + 1 - 1 - i = (m - 1 - i) + 1 by omega, div_pow, show (2 * p + v) / 2 = p by omega]
      · unfold bitG
        rw [List.map_singleton, show m + 1 - 1 - m = 0 by omega, Nat.pow_zero, Nat.div_one, show (2 * p + v) % 2 = v by omega]
    have fin : ∀ v : Nat, v < 2 → b2i (x.getLast hne) = (v : Int) → ∃ p, p < 2 ^ (m + 1) ∧ bitsG (m + 1) p = x.map b2i := fun v hv hb => by
      refine ⟨2 * p + v, by rw [Nat.pow_succ]; omega, ?_⟩
      rw [snoc v hv, e]
      conv => rhs; rw [← hx]
      rw [List.map_append, List.map_singleton, hb]
    cases hb : x.getLast hne with
    | true => exact fin 1 (by decide) (by rw [hb]; rfl)
    | false => exact fin 0 (by decide) (by rw [hb]; rfl)
theorem first_diff (m q p : Nat) (hqp : q < p) (hp : p < 2 ^ m) : ∃ j, j < m ∧ (∀ i, i < j → bitG m q i = bitG m p i) ∧ bitG m q j = 0 ∧ bitG m p j = 1 := by
  have aux : ∀ d, d ≤ m → q / 2 ^ (m - d) < p / 2 ^ (m - d) → ∃ j, j < d ∧ (∀ i, i < j → bitG m q i = bitG m p i) ∧ bitG m q j = 0 ∧ bitG m p j = 1 := by
    intro d
    induction d with
    | zero =>
      intro _ h
      rw [Nat.sub_zero, Nat.div_eq_of_lt hp] at h
      exact absurd h (Nat.not_lt_zero _)
    | succ d ih =>
      intro hd h
      obtain ⟨s, hs⟩ : ∃ s, m - (d + 1) = s := ⟨_, rfl⟩
      rw [hs] at h
      have e1 : m - d = s + 1 := sub_c hs hd
      have half : ∀ x : Nat, x / 2 ^ (s + 1) = x / 2 ^ s / 2 := fun x => by rw [Nat.pow_succ, Nat.div_div_eq_div_mul]
      rw [e1, half, half] at ih
      obtain ⟨Q, hQ⟩ : ∃ Q, q / 2 ^ s = Q := ⟨_, rfl⟩
      obtain ⟨P, hP⟩ : ∃ P, p / 2 ^ s = P := ⟨_, rfl⟩
      rw [hQ, hP] at h ih
      by_cases hl : Q / 2 < P / 2
      · obtain ⟨j, j1, j2⟩ := ih (by omega) hl
        exact ⟨j, by omega, j2⟩
      · have he : Q / 2 = P / 2 := by omega
        refine ⟨d, by omega, fun i hi => ?_, ?_, ?_⟩
        · unfold bitG
          rw [sub_a hs hd hi, Nat.pow_add, ← Nat.div_div_eq_div_mul, ← Nat.div_div_eq_div_mul, half, half, hQ, hP, he]
        · unfold bitG
          rw [sub_b hs hd, hQ, show Q % 2 = 0 by omega]
          rfl
        · unfold bitG
          rw [sub_b hs hd, hP, show P % 2 = 1 by omega]
          rfl
  exact aux m (Nat.le_refl _) (by rw [Nat.sub_self, Nat.pow_zero, Nat.div_one, Nat.div_one]; exact hqp)
theorem rd_bits {m n : Nat} {i : Nat} (h : i < m) : rd (bitsG m n) i = bitG m n i := by
  rw [rd_at _ i (by rw [bitsG_length]; exact h), bitsG_get m n i h]
theorem bits_bin (m n : Nat) : Bin (bitsG m n) := fun i => by
  by_cases h : i.toNat < m
  · rw [rd_nat (show i.toNat = ((i.toNat : Nat) : Int).toNat by omega), rd_bits h]
    exact bitG_two m n _
  · left
    unfold rd
    rw [List.getD_eq_getElem?_getD, List.getElem?_eq_none (by rw [bitsG_length]; omega)]
    rfl
/-! what agrees -/
def agrL : List Bool → List Int → Bool
  | b :: x, v :: f => if v = 0 then (if b = true then false else agrL x f) else if v = 1 then (if b = true then agrL x f else false) else agrL x f
  | _, _ => true
theorem agrees {x : List Bool} {fixed : List Int} (hl : x.length = fixed.length) (hx : x.length ≤ 1000000) : Ev (fun k => pentaglotlaw28_agrees.f k x fixed) (agrL x fixed) := by
  have loop : ∀ (t : List Bool) (i : Nat), x.drop i = t → i ≤ x.length → Ev (fun k => pentaglotlaw28_agrees.l0 k x fixed (i : Int)) (agrL t (fixed.drop i)) := by
    intro t
    induction t with
    | nil =>
      intro i h hi
      have := rest_nil hi h
      refine Ev.step (f := fun _ => some true) (fun k => ?_) (by rw [agrL]; exact Ev.now _; intros; simp_all)
      simp only [pentaglotlaw28_agrees.l0]
      rw [if_neg (by omega)]
    | cons b t ih =>
      intro i h hi
      obtain ⟨h1, h2, h3⟩ := restB h
      have hf : fixed.drop i = fixed[i] :: fixed.drop (i + 1) := List.drop_eq_getElem_cons (by omega)
      obtain ⟨h4, h5, h6⟩ := rest hf
      rw [hf]
      have hw : wrap64 ((i : Int) + 1) = ((i + 1 : Nat) : Int) := w64 (by omega) (by omega)
      have hi' := ih (i + 1) h3 (by omega)
      have no : Ev (fun k => if (i : Int) < (x.length : Int) then some false else none) false := ⟨0, fun k _ => if_pos (by omega)⟩
      rw [agrL]
      by_cases v0 : fixed[i] = 0
      · rw [if_pos v0]
        cases b with
        | true =>
          refine Ev.step (f := fun _ => some false) (fun k => ?_) (Ev.now _)
          simp only [pentaglotlaw28_agrees.l0, h2, h5]
          rw [if_pos (by omega), if_pos (by omega), if_pos (by omega), if_pos v0, if_pos trivial]
        | false =>
          refine Ev.step (fun k => ?_) hi'
          simp only [pentaglotlaw28_agrees.l0, h2, h5, hw]
          rw [if_pos (by omega), if_pos (by omega), if_pos (by omega), if_pos v0, if_neg (by decide), if_neg (by omega)]
      · rw [if_neg v0]
        by_cases v1 : fixed[i] = 1
        · rw [if_pos v1]
          cases b with
          | true =>
            refine Ev.step (fun k => ?_) hi'
            simp only [pentaglotlaw28_agrees.l0, h2, h5, hw]
            rw [if_pos (by omega), if_pos (by omega), if_pos (by omega), if_neg v0, if_pos v1, if_pos trivial]
          | false =>
            refine Ev.step (f := fun _ => some false) (fun k => ?_) (Ev.now _)
            simp only [pentaglotlaw28_agrees.l0, h2, h5]
            rw [if_pos (by omega), if_pos (by omega), if_pos (by omega), if_neg v0, if_pos v1, if_neg (by decide)]
        · rw [if_neg v1]
          refine Ev.step (fun k => ?_) hi'
          simp only [pentaglotlaw28_agrees.l0, h2, h5, hw]
          rw [if_pos (by omega), if_pos (by omega), if_pos (by omega), if_neg v0, if_neg v1]
  have h := loop x 0 rfl (Nat.zero_le _)
  rw [List.drop_zero] at h
  unfold pentaglotlaw28_agrees.f
  refine Ev.congr (fun k => ?_) h
  rw [if_pos (by omega)]
  rfl
theorem agrL_iff : ∀ (x : List Bool) (fixed : List Int), Tri fixed → x.length = fixed.length → (agrL x fixed = true ↔ ∀ i : Nat, i < x.length → rd fixed i ≠ 2 → rd (x.map b2i) i = rd fixed i)
  | [], [], _, _ => by simp [agrL]
  | b :: x, v :: f, ht, hl => by
    have ih := agrL_iff x f (fun y hy => ht y (List.mem_cons_of_mem _ hy)) (by simpa using hl)
    have hv := ht v List.mem_cons_self
    have head : (∀ i : Nat, i < (b :: x).length → rd (v :: f) i ≠ 2 → rd ((b :: x).map b2i) i = rd (v :: f) i) ↔ (v ≠ 2 → b2i b = v) ∧ ∀ i : Nat, i < x.length → rd f i ≠ 2 → rd (x.map b2i) i = rd f i := by
      constructor
      · intro h
        refine ⟨fun h2 => h 0 (by simp) h2, fun i hi h2 => ?_⟩
        exact h (i + 1) (by simp; omega) h2
      · rintro ⟨h1, h2⟩ i hi hr
        cases i with
        | zero => exact h1 hr
        | succ i => exact h2 i (by simpa using hi) hr
    rw [head, ← ih, agrL]
    by_cases v0 : v = 0
    · subst v0; cases b <;> simp [b2i]
    by_cases v1 : v = 1
    · subst v1; cases b <;> simp [b2i]
    have v2 : v = 2 := by omega
    subst v2
    simp
  | [], _ :: _, _, h => by simp at h
  | _ :: _, [], _, h => by simp at h
theorem agr_ref {m n : Nat} {fixed : List Int} (ht : Tri fixed) (hl : fixed.length = m) : agrL (toB (bitsG m n)) fixed = true ↔ Ref fixed (bitsG m n) := by
  rw [agrL_iff _ _ ht (by rw [toB_length, bitsG_length, hl]), bitsG_b, toB_length, bitsG_length]
  constructor
  · intro h
    refine ⟨by rw [bitsG_length, hl], fun i hi => ?_⟩
    by_cases hm : i.toNat < m
    · have := h i.toNat hm (by rw [rd_nat (show ((i.toNat : Nat) : Int).toNat = i.toNat by omega)]; exact hi)
      rwa [rd_nat (show ((i.toNat : Nat) : Int).toNat = i.toNat by omega), rd_nat (l := fixed) (show ((i.toNat : Nat) : Int).toNat = i.toNat by omega)] at this
    · unfold rd
      rw [List.getD_eq_getElem?_getD, List.getD_eq_getElem?_getD, List.getElem?_eq_none (by rw [bitsG_length]; omega), List.getElem?_eq_none (by omega)]
  · exact fun h i hi h2 => h.2 i h2
theorem findA_first {gs : List S52} {n2 : Int} {fixed : List Int} {m : Nat} (hl : fixed.length = m) (hm : m ≤ 16) : ∀ (r n p : Nat), n ≤ p → p < n + r → out3 gs n2 (bitsG m p) = 1 → agrL (toB (bitsG m p)) fixed = true → (∀ q, n ≤ q → q < p → out3 gs n2 (bitsG m q) = 1 → agrL (toB (bitsG m q)) fixed = false) →
    Ev (fun k => findA k fixed (satL gs n2 m r n)) (some (toB (bitsG m p)))
  | 0, n, p, h1, h2, _, _, _ => by omega
  | r + 1, n, p, h1, h2, ho, ha, hno => by
    have ag := agrees (x := toB (bitsG m n)) (fixed := fixed) (by rw [toB_length, bitsG_length, hl]) (by rw [toB_length, bitsG_length]; omega)
    rw [satL]
    by_cases hn : out3 gs n2 (bitsG m n) = 1
    · rw [if_pos hn]
      simp only [findA]
      refine Ev.bind ag ?_
      by_cases e : n = p
      · subst e
        rw [ha]
        simp only [if_true]
        exact Ev.now _
      · rw [hno n (Nat.le_refl _) (by omega) hn]
        simp only [Bool.false_eq_true, if_false]
        exact findA_first hl hm r (n + 1) p (by omega) (by omega) ho ha (fun q a b => hno q (by omega) b)
    · rw [if_neg hn]
      have e : n ≠ p := fun e => hn (by rw [e]; exact ho)
      exact findA_first hl hm r (n + 1) p (by omega) (by omega) ho ha (fun q a b => hno q (by omega) b)
theorem findA_none {gs : List S52} {n2 : Int} {fixed : List Int} {m : Nat} (hl : fixed.length = m) (hm : m ≤ 16) : ∀ (r n : Nat), (∀ q, n ≤ q → q < n + r → out3 gs n2 (bitsG m q) = 1 → agrL (toB (bitsG m q)) fixed = false) →
    Ev (fun k => findA k fixed (satL gs n2 m r n)) none
  | 0, n, _ => Ev.now _
  | r + 1, n, hno => by
    have ag := agrees (x := toB (bitsG m n)) (fixed := fixed) (by rw [toB_length, bitsG_length, hl]) (by rw [toB_length, bitsG_length]; omega)
    rw [satL]
    by_cases hn : out3 gs n2 (bitsG m n) = 1
    · rw [if_pos hn]
      simp only [findA]
      refine Ev.bind ag ?_
      rw [hno n (Nat.le_refl _) (by omega) hn]
      simp only [Bool.false_eq_true, if_false]
      exact findA_none hl hm r (n + 1) (fun q a b => hno q (by omega) (by omega))
    · rw [if_neg hn]
      exact findA_none hl hm r (n + 1) (fun q a b => hno q (by omega) (by omega))
/-- The search finds the first. -/
theorem least_first {n0 : Int} {gs : List S52} {n2 : Int} (hc : okC n0 gs n2 = true) (h16 : n0 ≤ 16) {fixed : List Int} (ht : Tri fixed) (hl : (fixed.length : Int) = n0) {r : Option (List Int)} {c : Nat} (hr : Srch gs n0 n2 fixed r c) : Ev (fun k => findA k fixed (satA n0 gs n2)) (r.map toB) := by
  obtain ⟨h0, _⟩ := okC_iff.1 hc
  obtain ⟨m, rfl⟩ := Int.eq_ofNat_of_zero_le h0
  have hlm : fixed.length = m := by omega
  have e0 : satA (m : Int) gs n2 = satL gs n2 m (2 ^ m) 0 := by unfold satA; rw [if_pos hc, if_neg (by omega), Int.toNat_natCast]
  rw [e0]
  obtain ⟨q1, q2⟩ := hr.least hc ht hl
  cases r with
  | none =>
    refine findA_none hlm (by omega) _ _ (fun q _ hq ho => ?_)
    cases ha : agrL (toB (bitsG m q)) fixed with
    | false => rfl
    | true => exact absurd ho (q1 rfl _ (bits_bin m q) ((agr_ref ht hlm).1 ha))
  | some b =>
    obtain ⟨i1, i2, i3⟩ := q2 b rfl
    obtain ⟨hbt, hbl, hbo⟩ := hr.found hc ht hl b rfl
    obtain ⟨p, hp, ep⟩ := bitsG_onto m (toB b) (by rw [toB_length]; omega)
    have hz : ∀ i : Int, rd (bitsG m p) i = if rd b i = 1 then 1 else 0 := fun i => by
      rw [ep]
      unfold toB rd
      rw [List.map_map, List.getD_eq_getElem?_getD, List.getD_eq_getElem?_getD, List.getElem?_map]
      cases b[i.toNat]? with
      | none => rfl
      | some v => simp [b2i]
    have hrz : Ref b (bitsG m p) := by
      refine ⟨by rw [bitsG_length]; omega, fun i hi => ?_⟩
      rw [hz]
      have := hbt.rd_ i
      by_cases e : rd b i = 1
      · rw [if_pos e, e]
      · rw [if_neg e]; omega
    have hto : toB (bitsG m p) = toB b := by
      rw [ep]
      unfold toB
      rw [List.map_map, List.map_map]
      refine List.map_congr_left (fun x _ => ?_)
      simp [b2i_one]
    have := findA_first (gs := gs) (n2 := n2) hlm (by omega) (2 ^ m) 0 p (Nat.zero_le _) (by rw [Nat.zero_add]; exact hp) ((out3_stay hrz gs n2 (by rw [hbo]; decide)).trans hbo) ((agr_ref ht hlm).2 (i1.trans hrz)) (fun q _ hq ho => by
      cases ha : agrL (toB (bitsG m q)) fixed with
      | false => rfl
      | true =>
        obtain ⟨j, j0, j1, j2, j3⟩ := first_diff m q p hq hp
        refine absurd ?_ (i3 _ (bits_bin m q) ((agr_ref ht hlm).1 ha) ho)
        refine ⟨j, fun i hi => ?_, (rd_bits j0).trans j2, ?_⟩
        · rw [← hz, rd_bits (by omega), rd_bits (by omega), j1 i hi]
        · have e := hz j
          rw [rd_bits j0, j3] at e
          by_cases e1 : rd b j = 1
          · exact e1
          · rw [if_neg e1] at e; cases e)
    rw [hto] at this
    exact this
end Go.Proofs.Ytflknolnclnhfaa.Sv
