/- Plain facts on the search for the first relevant unknown input, and on the search of Least. -/
import Derived.Test.YtflknolnclnhfaaPx0
import Derived.Test.YtflknolnclnhfaaPx3
import Derived.Test.YtflknolnclnhfaaSvC
namespace Go.Proofs.Ytflknolnclnhfaa.Sv
set_option linter.unusedVariables false
set_option linter.unusedSimpArgs false
open Go.RowKit Go.Proofs.Ytflknolnclnhfaa.P Go.Proofs.YtflknolnclnhfaaW.PrintWords Go.Proofs.YtflknolnclnhfaaW.PrintLast

/-- The gates that an unknown root's value leans on. -/
inductive Rch (gs : List S52) (vs : List Int) (r : Nat) : Nat → Prop
  | root : Rch gs vs r r
  | kid {i k : Nat} : Rch gs vs r i → rd vs i = 2 → (k : Int) ∈ (rd_T52 gs i).f2 → Rch gs vs r k
/-- m is the first relevant unknown input, n0 if there is none. -/
def IsFirst (gs : List S52) (vs : List Int) (r : Nat) (n0 m : Int) : Prop :=
  (∀ i, Rch gs vs r i → rd vs i = 2 → (rd_T52 gs i).f0 = 3 → m ≤ (rd_T52 gs i).f1) ∧ (m = n0 ∨ ∃ i, Rch gs vs r i ∧ rd vs i = 2 ∧ (rd_T52 gs i).f0 = 3 ∧ m = (rd_T52 gs i).f1)
/-- What a valid circuit's gate is. -/
theorem okL_at {n0 : Int} : ∀ (gs : List S52) (i : Nat), okL n0 i gs = true → ∀ j, j < gs.length → okG n0 (i + j) (rd_T52 gs j) = true
  | [], _, _, j, h => by simp at h
  | g :: gs, i, ho, j, h => by
    rw [okL, Bool.and_eq_true] at ho
    cases j with
    | zero => exact ho.1
    | succ j =>
      have := okL_at gs (i + 1) ho.2 j (by simpa using h)
      rw [show i + (j + 1) = i + 1 + j by omega]
      have e : rd_T52 (g :: gs) ((j + 1 : Nat) : Int) = rd_T52 gs (j : Int) := by
        unfold rd_T52
        rw [Int.toNat_natCast, Int.toNat_natCast]
        rfl
      rw [e]
      exact this
theorem gate_ok {n0 : Int} {gs : List S52} {n2 : Int} (h : okC n0 gs n2 = true) {i : Nat} (hi : i < gs.length) : okG n0 i (rd_T52 gs i) = true := by
  obtain ⟨_, _, _, _, _, _, h7⟩ := okC_iff.1 h
  have := okL_at gs 0 h7 i hi
  rwa [Nat.zero_add] at this
theorem gate_kids {n0 : Int} {gs : List S52} {n2 : Int} (h : okC n0 gs n2 = true) {i : Nat} (hi : i < gs.length) {k : Int} (hk : k ∈ (rd_T52 gs i).f2) : 0 ≤ k ∧ k < i := by
  have := gate_ok h hi
  unfold okG at this
  rw [Bool.and_eq_true] at this
  exact inB_iff.1 (List.all_eq_true.1 this.1 k hk)
theorem gate_in {n0 : Int} {gs : List S52} {n2 : Int} (h : okC n0 gs n2 = true) {i : Nat} (hi : i < gs.length) (h3 : (rd_T52 gs i).f0 = 3) : 0 ≤ (rd_T52 gs i).f1 ∧ (rd_T52 gs i).f1 < n0 ∧ (rd_T52 gs i).f2 = [] := by
  have := gate_ok h hi
  unfold okG opG at this
  rw [Bool.and_eq_true, if_neg (by omega), if_pos h3] at this
  have := this.2
  simp only [Bool.and_eq_true, decide_eq_true_eq, beq_iff_eq] at this
  exact ⟨this.1.1, this.1.2, List.eq_nil_of_length_eq_zero (by omega)⟩
theorem Rch.lt {n0 : Int} {gs : List S52} {n2 : Int} (h : okC n0 gs n2 = true) {vs : List Int} {i : Nat} (hr : Rch gs vs n2.toNat i) : i < gs.length := by
  obtain ⟨_, _, _, _, h5, h6, _⟩ := okC_iff.1 h
  induction hr with
  | root => omega
  | kid hr h2 hk ih => have := gate_kids h ih hk; omega
/-- The values of all gates. -/
theorem vals_at (bits : List Int) : ∀ (gs : List S52) (vs : List Int) (j : Nat), j < gs.length → rd (valsG bits gs vs) ((vs.length + j : Nat) : Int) = vstep bits (valsG bits (gs.take j) vs) (rd_T52 gs j)
  | [], _, j, h => by simp at h
  | g :: gs, vs, j, h => by
    cases j with
    | zero =>
      obtain ⟨t, ht⟩ := valsG_pre bits gs (vs ++ [vstep bits vs g])
      have e : rd_T52 (g :: gs) ((0 : Nat) : Int) = g := rfl
      rw [valsG, ht, e, List.take_zero, valsG, Nat.add_zero, rd_left (by omega) (by simp; omega), rd_snoc]
    | succ j =>
      have ih := vals_at bits gs (vs ++ [vstep bits vs g]) j (by simpa using h)
      have e : rd_T52 (g :: gs) ((j + 1 : Nat) : Int) = rd_T52 gs (j : Int) := by
        unfold rd_T52
        rw [Int.toNat_natCast, Int.toNat_natCast]
        rfl
      rw [List.length_append, List.length_singleton, show vs.length + 1 + j = vs.length + (j + 1) by omega] at ih
      rw [valsG, ih, e, List.take_succ_cons, valsG]
theorem vals_take (bits : List Int) : ∀ (gs : List S52) (vs : List Int) (j : Nat) (k : Int), j ≤ gs.length → 0 ≤ k → k < vs.length + j → rd (valsG bits (gs.take j) vs) k = rd (valsG bits gs vs) k
  | [], vs, j, k, h, _, _ => by rw [List.take_nil]
  | g :: gs, vs, j, k, h, h0, h1 => by
    cases j with
    | zero =>
      obtain ⟨t, ht⟩ := valsG_pre bits (g :: gs) vs
      rw [ht, List.take_zero, valsG, rd_left h0 (by omega)]
    | succ j =>
      rw [List.take_succ_cons, valsG, valsG]
      exact vals_take bits gs _ j k (by simpa using h) h0 (by simp; omega)
/-- A gate's value out of its kids'. -/
theorem val_gate {n0 : Int} {gs : List S52} {n2 : Int} (h : okC n0 gs n2 = true) (bits : List Int) {i : Nat} (hi : i < gs.length) : rd (valsG bits gs []) i = vstep bits (valsG bits gs []) (rd_T52 gs i) := by
  have e := vals_at bits gs [] i hi
  rw [List.length_nil, Nat.zero_add] at e
  rw [e]
  unfold vstep
  have hk : ∀ k ∈ (rd_T52 gs i).f2, rd (valsG bits (gs.take i) []) k = rd (valsG bits gs []) k := fun k hk => by
    have := gate_kids h hi hk
    exact vals_take bits gs [] i k (by omega) this.1 (by simp; omega)
  have hg := gate_ok h hi
  unfold okG at hg
  rw [Bool.and_eq_true] at hg
  split
  · rfl
  split
  · rfl
  split
  · rfl
  split
  · rename_i o1 o2 o3 o4
    have ho := hg.2
    unfold opG at ho
    rw [if_neg (by omega), if_neg o3, if_pos o4] at ho
    simp only [Bool.and_eq_true, beq_iff_eq] at ho
    have hl : 0 < (rd_T52 gs i).f2.length := by omega
    rw [hk _ (by rw [show (0 : Int) = ((0 : Nat) : Int) from rfl, rd_at _ 0 hl]; exact List.getElem_mem _)]
  · rw [List.map_congr_left hk]
/-- An unknown gate leans on an unknown input. -/
theorem joinF_two {s : Int} (hs : s = 0 ∨ s = 1) : ∀ (l : List Int) (c : Int), joinF s c l = 2 → c = 2 ∨ (2 : Int) ∈ l
  | [], c, h => .inl h
  | v :: l, c, h => by
    rw [joinF] at h
    by_cases e : v = s
    · rw [if_pos e] at h; omega
    · rw [if_neg e] at h
      by_cases e2 : v = 2
      · exact .inr (by rw [e2]; exact List.mem_cons_self)
      · rw [if_neg e2] at h
        rcases joinF_two hs l c h with h | h
        · exact .inl h
        · exact .inr (List.mem_cons_of_mem _ h)
theorem unknown_kid {n0 : Int} {gs : List S52} {n2 : Int} (h : okC n0 gs n2 = true) {bits : List Int} (ht : Tri bits) {i : Nat} (hi : i < gs.length) (hv : rd (valsG bits gs []) i = 2) : (rd_T52 gs i).f0 = 3 ∨ ∃ k ∈ (rd_T52 gs i).f2, rd (valsG bits gs []) k = 2 := by
  rw [val_gate h bits hi] at hv
  have hg := gate_ok h hi
  unfold okG at hg
  rw [Bool.and_eq_true] at hg
  unfold vstep at hv
  by_cases o1 : (rd_T52 gs i).f0 = 1
  · rw [if_pos o1] at hv; omega
  rw [if_neg o1] at hv
  by_cases o2 : (rd_T52 gs i).f0 = 2
  · rw [if_pos o2] at hv; omega
  rw [if_neg o2] at hv
  by_cases o3 : (rd_T52 gs i).f0 = 3
  · exact .inl o3
  rw [if_neg o3] at hv
  right
  by_cases o4 : (rd_T52 gs i).f0 = 4
  · rw [if_pos o4] at hv
    have ho := hg.2
    unfold opG at ho
    rw [if_neg (by omega), if_neg o3, if_pos o4] at ho
    simp only [Bool.and_eq_true, beq_iff_eq] at ho
    have hl : 0 < (rd_T52 gs i).f2.length := by omega
    refine ⟨rd (rd_T52 gs i).f2 0, by rw [show (0 : Int) = ((0 : Nat) : Int) from rfl, rd_at _ 0 hl]; exact List.getElem_mem _, ?_⟩
    unfold negF at hv
    by_cases e : rd (valsG bits gs []) (rd (rd_T52 gs i).f2 0) = 2
    · exact e
    · rw [if_neg e] at hv
      have := (valsG_tri ht gs (vs := []) (fun v hv => by cases hv)).rd_ (rd (rd_T52 gs i).f2 0)
      omega
  · rw [if_neg o4] at hv
    have hs := strong01 (rd_T52 gs i).f0
    rcases joinF_two hs _ _ hv with e | e
    · omega
    · obtain ⟨k, hk, e⟩ := List.mem_map.1 e
      exact ⟨k, hk, e⟩
theorem exists_in {n0 : Int} {gs : List S52} {n2 : Int} (h : okC n0 gs n2 = true) {bits : List Int} (ht : Tri bits) (r : Nat) : ∀ (n i : Nat), i < n → i < gs.length → Rch gs (valsG bits gs []) r i → rd (valsG bits gs []) i = 2 →
    ∃ j, Rch gs (valsG bits gs []) r j ∧ rd (valsG bits gs []) j = 2 ∧ (rd_T52 gs j).f0 = 3
  | 0, i, hn, _, _, _ => by omega
  | n + 1, i, hn, hi, hr, hv => by
    rcases unknown_kid h ht hi hv with h3 | ⟨k, hk, hv2⟩
    · exact ⟨i, hr, hv, h3⟩
    · obtain ⟨k0, k1⟩ := gate_kids h hi hk
      obtain ⟨k, rfl⟩ := Int.eq_ofNat_of_zero_le k0
      exact exists_in h ht r n k (by omega) (by omega) (.kid hr hv hk) hv2
theorem first_at {n0 : Int} {gs : List S52} {n2 : Int} (h : okC n0 gs n2 = true) {bits : List Int} (ht : Tri bits) (ho : out3 gs n2 bits = 2) {m : Int} (hm : IsFirst gs (valsG bits gs []) n2.toNat n0 m) : 0 ≤ m ∧ m < n0 ∧ rd bits m = 2 := by
  obtain ⟨_, _, _, _, h5, h6, _⟩ := okC_iff.1 h
  have ho' : rd (valsG bits gs []) (n2.toNat : Int) = 2 := by rw [Int.toNat_of_nonneg h5]; exact ho
  obtain ⟨j, hj1, hj2, hj3⟩ := exists_in h ht n2.toNat _ n2.toNat (Nat.lt_succ_self _) (by omega) .root ho'
  have hj := gate_in h (hj1.lt h) hj3
  have key : ∃ i, Rch gs (valsG bits gs []) n2.toNat i ∧ rd (valsG bits gs []) i = 2 ∧ (rd_T52 gs i).f0 = 3 ∧ m = (rd_T52 gs i).f1 := by
    rcases hm.2 with e | e
    · have := hm.1 j hj1 hj2 hj3
      omega
    · exact e
  obtain ⟨i, i1, i2, i3, rfl⟩ := key
  have hi := gate_in h (i1.lt h) i3
  refine ⟨hi.1, hi.2.1, ?_⟩
  rw [val_gate h bits (i1.lt h)] at i2
  unfold vstep at i2
  rwa [if_neg (by omega), if_neg (by omega), if_pos i3] at i2
theorem first_unique {n0 : Int} {gs : List S52} {n2 : Int} (h : okC n0 gs n2 = true) {bits : List Int} (ht : Tri bits) (ho : out3 gs n2 bits = 2) {a b m m' : Int} (hm : IsFirst gs (valsG bits gs []) n2.toNat a m) (hm' : IsFirst gs (valsG bits gs []) n2.toNat b m') (ha : n0 ≤ a) (hb : n0 ≤ b) : m = m' := by
  obtain ⟨_, _, _, _, h5, h6, _⟩ := okC_iff.1 h
  have ho' : rd (valsG bits gs []) (n2.toNat : Int) = 2 := by rw [Int.toNat_of_nonneg h5]; exact ho
  obtain ⟨j, hj1, hj2, hj3⟩ := exists_in h ht n2.toNat _ n2.toNat (Nat.lt_succ_self _) (by omega) .root ho'
  have hj := gate_in h (hj1.lt h) hj3
  have q := hm.1 j hj1 hj2 hj3
  have q' := hm'.1 j hj1 hj2 hj3
  rcases hm.2 with e | ⟨i, i1, i2, i3, e⟩
  · omega
  · rcases hm'.2 with e' | ⟨i', i1', i2', i3', e'⟩
    · omega
    · have := hm.1 i' i1' i2' i3'
      have := hm'.1 i i1 i2 i3
      omega
/-! the program's search -/
def wt (gs : List S52) : List Bool → Nat → Nat
  | [], _ => 0
  | b :: s, i => (if b = true then 0 else (rd_T52 gs i).f2.length) + wt gs s (i + 1)
theorem wt_set (gs : List S52) : ∀ (s : List Bool) (i j : Nat), j < s.length → s.getD j false = false → wt gs (s.set j true) i + (rd_T52 gs ((i + j : Nat) : Int)).f2.length = wt gs s i
  | [], _, _, h, _ => by simp at h
  | b :: s, i, 0, _, hb => by
    have : b = false := by simpa using hb
    subst this
    simp [wt]
    omega
  | b :: s, i, j + 1, h, hb => by
    have ih := wt_set gs s (i + 1) j (by simpa using h) (by simpa using hb)
    rw [List.set_cons_succ, wt, wt, show i + (j + 1) = i + 1 + j by omega]
    omega
theorem wt_le (gs : List S52) (hk : ∀ i : Nat, (rd_T52 gs i).f2.length ≤ 50) : ∀ (s : List Bool) (i : Nat), wt gs s i ≤ 50 * s.length
  | [], _ => Nat.le_refl _
  | b :: s, i => by
    have ih := wt_le gs hk s (i + 1)
    have := hk i
    rw [wt, List.length_cons]
    split <;> omega
theorem take_snoc (l : List Int) (h : 0 < l.length) : l.take (l.length - 1) ++ [rd l ((l.length : Int) - 1)] = l := by
  have e : ((l.length : Int) - 1) = ((l.length - 1 : Nat) : Int) := by omega
  rw [e, rd_at l (l.length - 1) (by omega)]
  have h2 := List.take_succ_eq_append_getElem (i := l.length - 1) (l := l) (by omega)
  rw [show l.length - 1 + 1 = l.length by omega, List.take_length] at h2
  exact h2.symm
structure Dfs (gs : List S52) (vs : List Int) (r : Nat) (n0 : Int) (seen : List Bool) (todo : List Int) (first : Int) : Prop where
  len : seen.length = gs.length
  todo_ : ∀ k ∈ todo, ∃ i : Nat, k = (i : Int) ∧ i < gs.length ∧ Rch gs vs r i
  seen_ : ∀ i, seen.getD i false = true → Rch gs vs r i ∧ rd vs (i : Int) = 2
  low : ∀ i, seen.getD i false = true → (rd_T52 gs i).f0 = 3 → first ≤ (rd_T52 gs i).f1
  at_ : first = n0 ∨ ∃ i, seen.getD i false = true ∧ (rd_T52 gs i).f0 = 3 ∧ first = (rd_T52 gs i).f1
  clo : ∀ i, seen.getD i false = true → ∀ k ∈ (rd_T52 gs i).f2, rd vs k = 2 → seen.getD k.toNat false = true ∨ k ∈ todo
  top : rd vs (r : Int) = 2 → seen.getD r false = true ∨ (r : Int) ∈ todo
theorem getD_set {l : List Bool} {i j : Nat} (hi : i < l.length) : (l.set i true).getD j false = true ↔ l.getD j false = true ∨ j = i := by
  rw [List.getD_eq_getElem?_getD, List.getD_eq_getElem?_getD, List.getElem?_set]
  by_cases e : i = j
  · subst e
    rw [if_pos rfl, if_pos hi]
    simp
  · rw [if_neg e]
    constructor
    · exact .inl
    · rintro (h | h)
      · exact h
      · exact absurd h.symm e
theorem relL_of {n0 : Int} {gs : List S52} {n2 : Int} (h : okC n0 gs n2 = true) (hs : Sm gs) {vs : List Int} (hvl : vs.length = gs.length) : ∀ (f : Nat) (seen : List Bool) (todo : List Int) (first : Int), Dfs gs vs n2.toNat n0 seen todo first → todo.length + wt gs seen 0 < f → todo.length + wt gs seen 0 ≤ 4000 →
    ∃ m, relL gs vs f seen todo first = some m ∧ IsFirst gs vs n2.toNat n0 m := by
  intro f
  induction f with
  | zero => intro seen todo first hD hf; omega
  | succ f ih =>
    intro seen todo first hD hf hb
    rw [relL]
    by_cases hn : 0 < todo.length
    · rw [if_pos hn]
      have hlast : rd todo ((todo.length : Int) - 1) ∈ todo := by
        have e : rd todo ((todo.length : Int) - 1) ∈ todo.take (todo.length - 1) ++ [rd todo ((todo.length : Int) - 1)] := by simp
        rwa [take_snoc todo hn] at e
      have hsn := take_snoc todo hn
      generalize hp : rd todo ((todo.length : Int) - 1) = p at hlast hsn ⊢
      obtain ⟨i, rfl, hi, hr⟩ := hD.todo_ p hlast
      have hlen := hD.len
      have hmem : ∀ k, k ∈ todo → k ∈ todo.take (todo.length - 1) ∨ k = (i : Int) := fun k hk => by
        rw [← hsn] at hk
        rcases List.mem_append.1 hk with hk | hk
        · exact .inl hk
        · exact .inr (List.mem_singleton.1 hk)
      have hsub : ∀ k, k ∈ todo.take (todo.length - 1) → k ∈ todo := fun k hk => List.mem_of_mem_take hk
      have hlt : (todo.take (todo.length - 1)).length = todo.length - 1 := by simp
      rw [if_pos ⟨by omega, by omega⟩, Int.toNat_natCast]
      by_cases hse : seen.getD i false = true
      · rw [if_pos hse]
        refine ih seen _ first ⟨hD.len, fun k hk => hD.todo_ k (hsub k hk), hD.seen_, hD.low, hD.at_, fun j hj k hk hv => ?_, fun hv => ?_⟩ (by omega) (by omega)
        · rcases hD.clo j hj k hk hv with h1 | h1
          · exact .inl h1
          · rcases hmem k h1 with h1 | rfl
            · exact .inr h1
            · exact .inl (by simpa using hse)
        · rcases hD.top hv with h1 | h1
          · exact .inl h1
          · rcases hmem _ h1 with h1 | h1
            · exact .inr h1
            · rw [Int.ofNat.inj h1] at *
              exact .inl hse
      · rw [if_neg hse, if_pos (by omega)]
        by_cases hv : rd vs (i : Int) = 2
        · rw [if_pos hv, if_pos (by omega)]
          have hss : seen.getD i false = false := by simpa using hse
          have hw := wt_set gs seen 0 i (by omega) hss
          rw [Nat.zero_add] at hw
          have hset : ∀ j, (seen.set i true).getD j false = true ↔ seen.getD j false = true ∨ j = i := fun j => getD_set (by omega)
          by_cases h3 : (rd_T52 gs i).f0 = 3
          · rw [if_pos h3]
            have hg := gate_in h hi h3
            have hw0 : (rd_T52 gs i).f2.length = 0 := by rw [hg.2.2]; rfl
            refine ih _ _ _ ⟨by simp [hlen], fun k hk => hD.todo_ k (hsub k hk), fun j hj => ?_, fun j hj hj3 => ?_, ?_, fun j hj k hk hkv => ?_, fun htv => ?_⟩ (by omega) (by omega)
            · rcases (hset j).1 hj with hj | rfl
              · exact hD.seen_ j hj
              · exact ⟨hr, hv⟩
            · rcases (hset j).1 hj with hj | rfl
              · have := hD.low j hj hj3
                split <;> omega
              · split <;> omega
            · split
              · exact .inr ⟨i, (hset i).2 (.inr rfl), h3, rfl⟩
              · rcases hD.at_ with e | ⟨j, j1, j2, j3⟩
                · exact .inl e
                · exact .inr ⟨j, (hset j).2 (.inl j1), j2, j3⟩
            · rcases (hset j).1 hj with hj | rfl
              · rcases hD.clo j hj k hk hkv with h1 | h1
                · exact .inl ((hset _).2 (.inl h1))
                · rcases hmem k h1 with h1 | rfl
                  · exact .inr h1
                  · exact .inl ((hset _).2 (.inr (by simp)))
              · rw [hg.2.2] at hk
                cases hk
            · rcases hD.top htv with h1 | h1
              · exact .inl ((hset _).2 (.inl h1))
              · rcases hmem _ h1 with h1 | h1
                · exact .inr h1
                · exact .inl ((hset _).2 (.inr (Int.ofNat.inj h1)))
          · rw [if_neg h3, if_pos (by rw [hlt]; omega)]
            have hkm : ∀ k, k ∈ todo.take (todo.length - 1) ++ (rd_T52 gs i).f2 ↔ k ∈ todo.take (todo.length - 1) ∨ k ∈ (rd_T52 gs i).f2 := fun k => List.mem_append
            refine ih _ _ _ ⟨by simp [hlen], fun k hk => ?_, fun j hj => ?_, fun j hj hj3 => ?_, ?_, fun j hj k hk hkv => ?_, fun htv => ?_⟩ (by rw [List.length_append, hlt]; omega) (by rw [List.length_append, hlt]; omega)
            · rcases (hkm k).1 hk with hk | hk
              · exact hD.todo_ k (hsub k hk)
              · obtain ⟨k0, k1⟩ := gate_kids h hi hk
                obtain ⟨k, rfl⟩ := Int.eq_ofNat_of_zero_le k0
                exact ⟨k, rfl, by omega, .kid hr hv hk⟩
            · rcases (hset j).1 hj with hj | rfl
              · exact hD.seen_ j hj
              · exact ⟨hr, hv⟩
            · rcases (hset j).1 hj with hj | rfl
              · exact hD.low j hj hj3
              · exact absurd hj3 h3
            · rcases hD.at_ with e | ⟨j, j1, j2, j3⟩
              · exact .inl e
              · exact .inr ⟨j, (hset j).2 (.inl j1), j2, j3⟩
            · rcases (hset j).1 hj with hj | rfl
              · rcases hD.clo j hj k hk hkv with h1 | h1
                · exact .inl ((hset _).2 (.inl h1))
                · rcases hmem k h1 with h1 | rfl
                  · exact .inr ((hkm k).2 (.inl h1))
                  · exact .inl ((hset _).2 (.inr (by simp)))
              · exact .inr ((hkm k).2 (.inr hk))
            · rcases hD.top htv with h1 | h1
              · exact .inl ((hset _).2 (.inl h1))
              · rcases hmem _ h1 with h1 | h1
                · exact .inr ((hkm _).2 (.inl h1))
                · exact .inl ((hset _).2 (.inr (Int.ofNat.inj h1)))
        · rw [if_neg hv]
          refine ih seen _ first ⟨hD.len, fun k hk => hD.todo_ k (hsub k hk), hD.seen_, hD.low, hD.at_, fun j hj k hk hkv => ?_, fun htv => ?_⟩ (by omega) (by omega)
          · rcases hD.clo j hj k hk hkv with h1 | h1
            · exact .inl h1
            · rcases hmem k h1 with h1 | rfl
              · exact .inr h1
              · exact absurd hkv hv
          · rcases hD.top htv with h1 | h1
            · exact .inl h1
            · rcases hmem _ h1 with h1 | h1
              · exact .inr h1
              · rw [h1] at htv
                exact absurd htv hv
    · rw [if_neg hn]
      obtain rfl := List.eq_nil_of_length_eq_zero (by omega : todo.length = 0)
      have all : ∀ i, Rch gs vs n2.toNat i → rd vs (i : Int) = 2 → seen.getD i false = true := by
        intro i hr
        induction hr with
        | root =>
          intro hv
          rcases hD.top hv with h1 | h1
          · exact h1
          · cases h1
        | kid hr h2 hk ih =>
          intro hv
          rcases hD.clo _ (ih h2) _ hk hv with h1 | h1
          · simpa using h1
          · cases h1
      refine ⟨first, rfl, fun i i1 i2 i3 => hD.low i (all i i1 i2) i3, ?_⟩
      rcases hD.at_ with e | ⟨i, i1, i2, i3⟩
      · exact .inl e
      · exact .inr ⟨i, (hD.seen_ i i1).1, (hD.seen_ i i1).2, i2, i3⟩
theorem rd52_kids {gs : List S52} (hs : Sm gs) (i : Nat) : (rd_T52 gs i).f2.length ≤ 50 := by
  unfold rd_T52
  rw [Int.toNat_natCast, List.getD_eq_getElem?_getD]
  cases e : gs[i]? with
  | none => simp [z52]
  | some g => exact hs.2 g (List.mem_of_getElem? e)
theorem relF_of {n0 : Int} {gs : List S52} {n2 : Int} (h : okC n0 gs n2 = true) (hs : Sm gs) {vs : List Int} (hvl : vs.length = gs.length) {f : Nat} (hf : 4000 ≤ f) : ∃ m, relF f gs n0 n2 vs = some m ∧ IsFirst gs vs n2.toNat n0 m := by
  obtain ⟨_, _, _, _, h5, h6, _⟩ := okC_iff.1 h
  have hw := wt_le gs (rd52_kids hs) (List.replicate vs.length false) 0
  rw [List.length_replicate, hvl] at hw
  have := hs.1
  have hno : ∀ i, (List.replicate vs.length false).getD i false = true → False := fun i hi => by
    rw [List.getD_eq_getElem?_getD, List.getElem?_replicate] at hi
    split at hi <;> simp at hi
  refine relL_of h hs hvl f _ _ _ ⟨by simp [hvl], fun k hk => ?_, fun i hi => (hno i hi).elim, fun i hi => (hno i hi).elim, .inl rfl, fun i hi => (hno i hi).elim, fun _ => .inr ?_⟩ (by rw [hvl]; simp; omega) (by rw [hvl]; simp; omega)
  · exact ⟨n2.toNat, by rw [List.mem_singleton.1 hk]; omega, by omega, .root⟩
  · rw [Int.toNat_of_nonneg h5]
    simp
end Go.Proofs.Ytflknolnclnhfaa.Sv
