/- Plain facts on the printed Unify and Subsumes of the program: what they answer at lists ascending by name. -/
import Derived.Test.YtnfdhfclibdbmaaPx0
import Derived.Test.YtnfdhfclibdbmaaPx2
import Derived.Test.YtnfdhfclibdbmaaFtPlain
namespace Go.Proofs.Ytnfdhfclibdbmaa.Ft
set_option linter.unusedVariables false
set_option linter.unusedSimpArgs false
open Go.RowKit Go.Proofs.Ytnfdhfclibdbmaa.P Go.Proofs.YtnfdhfclibdbmaaW.PrintWords Go.Proofs.YtnfdhfclibdbmaaW.PrintLast

theorem w64 {x : Int} (h0 : -9223372036854775808 ≤ x) (h1 : x ≤ 9223372036854775807) : wrap64 x = x := by unfold wrap64; omega
def im (x : S33) : Key × Key := (x.f0.toList, x.f1.toList)
def ims (l : List S33) : Rec := l.map im
theorem ims_length (l : List S33) : (ims l).length = l.length := by simp [ims]
theorem ims_append (a b : List S33) : ims (a ++ b) = ims a ++ ims b := by simp [ims]
/-- A list's rest from a place on. -/
theorem rest {l t : List S33} {x : S33} {i : Nat} (h : l.drop i = x :: t) : i < l.length ∧ rd_T33 l (i : Int) = x ∧ l.drop (i + 1) = t := by
  have hi : i < l.length := by
    rcases Nat.lt_or_ge i l.length with h' | h'
    · exact h'
    · rw [List.drop_of_length_le h'] at h; cases h
  rw [List.drop_eq_getElem_cons hi] at h
  injection h with h1 h2
  refine ⟨hi, ?_, h2⟩
  unfold rd_T33
  rw [Int.toNat_natCast, List.getD_eq_getElem?_getD, List.getElem?_eq_getElem hi]
  exact h1
theorem rest_nil {l : List S33} {i : Nat} (hi : i ≤ l.length) (h : l.drop i = []) : i = l.length := by
  have := List.drop_eq_nil_iff.1 h
  omega
theorem asc_tail {x : Key × Key} {l : Rec} (h : Asc (x :: l)) : Asc l := h.2
theorem fit_drop_left {x : Key × Key} {a b : Rec} (h : ∀ y ∈ b, ls x.1 y.1 = true) : Fit (x :: a) b ↔ Fit a b := by
  constructor
  · intro hf k v w h1 h2
    by_cases e : x.1 = k
    · rw [← e, get_lt h] at h2; cases h2
    · exact hf k v w (by rw [get, if_neg e]; exact h1) h2
  · intro hf k v w h1 h2
    by_cases e : x.1 = k
    · rw [← e, get_lt h] at h2; cases h2
    · rw [get, if_neg e] at h1; exact hf k v w h1 h2
theorem fit_comm {a b : Rec} : Fit a b ↔ Fit b a := ⟨fit_symm, fit_symm⟩
theorem isU_cons {x : Key × Key} {a b m : Rec} (ha : ∀ y ∈ a, ls x.1 y.1 = true) (hb : ∀ y ∈ b, ls x.1 y.1 = true) (h : IsU a b m) : IsU (x :: a) b (x :: m) := by
  refine ⟨⟨fun y hy => ?_, h.1⟩, fun k => ?_⟩
  · have hg : get m y.1 = some y.2 := mem_get h.1 hy
    rw [h.2] at hg
    cases h1 : get a y.1 with
    | some v => exact ha (y.1, v) (get_mem h1)
    | none =>
      rw [h1] at hg
      exact hb (y.1, y.2) (get_mem hg)
  · rw [get, get]
    by_cases e : x.1 = k
    · rw [if_pos e, if_pos e]; rfl
    · rw [if_neg e, if_neg e]; exact h.2 k
theorem isU_both {x y : Key × Key} {a b m : Rec} (he : x = y) (ha : ∀ z ∈ a, ls x.1 z.1 = true) (hb : ∀ z ∈ b, ls y.1 z.1 = true) (h : IsU a b m) : IsU (x :: a) (y :: b) (x :: m) := by
  subst he
  refine ⟨⟨fun y hy => ?_, h.1⟩, fun k => ?_⟩
  · have hg : get m y.1 = some y.2 := mem_get h.1 hy
    rw [h.2] at hg
    cases h1 : get a y.1 with
    | some v => exact ha (y.1, v) (get_mem h1)
    | none =>
      rw [h1] at hg
      exact hb (y.1, y.2) (get_mem hg)
  · rw [get, get, get]
    by_cases e : x.1 = k
    · rw [if_pos e, if_pos e]; rfl
    · rw [if_neg e, if_neg e, if_neg e]; exact h.2 k
theorem fit_both {x y : Key × Key} {a b : Rec} (hk : x.1 = y.1) (hv : x.2 = y.2) (ha : ∀ z ∈ a, ls x.1 z.1 = true) (hb : ∀ z ∈ b, ls y.1 z.1 = true) : Fit (x :: a) (y :: b) ↔ Fit a b := by
  constructor
  · intro hf k v w h1 h2
    by_cases e : x.1 = k
    · rw [← e, get_lt ha] at h1; cases h1
    · exact hf k v w (by rw [get, if_neg e]; exact h1) (by rw [get, if_neg (by rw [← hk]; exact e)]; exact h2)
  · intro hf k v w h1 h2
    by_cases e : x.1 = k
    · rw [get, if_pos e] at h1
      rw [get, if_pos (by rw [← hk]; exact e)] at h2
      injection h1 with h1
      injection h2 with h2
      rw [← h1, ← h2, hv]
    · rw [get, if_neg e] at h1
      rw [get, if_neg (by rw [← hk]; exact e)] at h2
      exact hf k v w h1 h2
/-- What the merging of two rests answers. -/
def Merged (A B out : List S33) (r : List S33 × Bool) : Prop :=
  (Fit (ims A) (ims B) ∧ ∃ m, r = (out ++ m, true) ∧ IsU (ims A) (ims B) (ims m) ∧ m.length ≤ A.length + B.length) ∨ (¬ Fit (ims A) (ims B) ∧ r = ([], false))
theorem ls_head {x y : S33} {t : List S33} (h : Asc (ims (x :: t))) (hy : y ∈ t) : ls x.f0.toList y.f0.toList = true := h.1 (im y) (List.mem_map_of_mem hy)
theorem unify_loop (a b : List S33) (hlen : a.length + b.length ≤ 4000000000) (n : Nat) : ∀ (i k : Nat) (out A B : List S33), a.drop i = A → b.drop k = B → i ≤ a.length → k ≤ b.length → A.length + B.length ≤ n → out.length ≤ i + k → Asc (ims A) → Asc (ims B) →
    ∃ r, Ev (fun z => feature_Unify.l0 z a b out (i : Int) (k : Int)) r ∧ Merged A B out r := by
  induction n with
  | zero =>
    intro i k out A B hA hB hi hk hn ho aA aB
    obtain rfl : A = [] := List.eq_nil_of_length_eq_zero (by omega)
    obtain rfl : B = [] := List.eq_nil_of_length_eq_zero (by omega)
    have ei := rest_nil hi hA
    have ek := rest_nil hk hB
    refine ⟨(out, true), ?_, .inl ⟨fun k v w h1 => (by cases h1), [], by simp, ⟨trivial, fun k => rfl⟩, by simp⟩⟩
    refine Ev.step (f := fun z => feature_Unify.j1 z a b out i k false) (fun z => ?_) (Ev.step (f := fun _ => some (out, true)) (fun z => rfl) (Ev.now _))
    simp only [feature_Unify.l0]
    rw [if_neg (by omega), decide_eq_false (by omega)]
  | succ n ih =>
    intro i k out A B hA hB hi hk hn ho aA aB
    cases A with
    | nil =>
      have ei := rest_nil hi hA
      cases B with
      | nil =>
        have ek := rest_nil hk hB
        refine ⟨(out, true), ?_, .inl ⟨fun k v w h1 => (by cases h1), [], by simp, ⟨trivial, fun k => rfl⟩, by simp⟩⟩
        refine Ev.step (f := fun z => feature_Unify.j1 z a b out i k false) (fun z => ?_) (Ev.step (f := fun _ => some (out, true)) (fun z => rfl) (Ev.now _))
        simp only [feature_Unify.l0]
        rw [if_neg (by omega), decide_eq_false (by omega)]
      | cons y B =>
        obtain ⟨hkl, hy, hB'⟩ := rest hB
        obtain ⟨r, hr, hm⟩ := ih i (k + 1) (out ++ [y]) [] B hA hB' hi (by omega) (by simp at hn ⊢; omega) (by simp; omega) aA (asc_tail aB)
        refine ⟨r, ?_, ?_⟩
        · refine Ev.step (f := fun z => feature_Unify.j1 z a b out i k true) (fun z => ?_) (Ev.step (f := fun z => feature_Unify.j2 z a b out i k false) (fun z => ?_) (Ev.step (f := fun z => feature_Unify.j3 z a b out i k true) (fun z => ?_) (Ev.step (f := fun z => feature_Unify.l0 z a b (out ++ [y]) i ((k + 1 : Nat) : Int)) (fun z => ?_) hr)))
          · simp only [feature_Unify.l0]
            rw [if_neg (by omega), decide_eq_true (by omega)]
          · simp only [feature_Unify.j1]
            rw [if_pos trivial, if_neg (by omega), if_neg (by omega)]
          · simp only [feature_Unify.j2]
            rw [if_neg (by decide), if_pos (by omega)]
          · simp only [feature_Unify.j3]
            rw [if_pos trivial, if_pos (by omega), if_pos (by omega), if_pos (by omega), hy, w64 (by omega) (by omega)]
            rfl
        · rcases hm with ⟨h1, m, h2, h3, h4⟩ | ⟨h1, h2⟩
          · refine .inl ⟨fun k v w h => (by cases h), y :: m, by rw [h2]; simp, ?_, by simp at h4 ⊢; omega⟩
            exact isU_comm (fun k v w h => by cases h) (isU_cons (x := im y) (fun z hz => aB.1 z hz) (fun z hz => by cases hz) (isU_comm (fun k v w h1 h2 => by cases h2) h3))
          · exact absurd (fun k v w h => by cases h) h1
    | cons x A =>
      obtain ⟨hil, hx, hA'⟩ := rest hA
      cases B with
      | nil =>
        have ek := rest_nil hk hB
        obtain ⟨r, hr, hm⟩ := ih (i + 1) k (out ++ [x]) A [] hA' hB (by omega) hk (by simp at hn ⊢; omega) (by simp; omega) (asc_tail aA) aB
        refine ⟨r, ?_, ?_⟩
        · refine Ev.step (f := fun z => feature_Unify.j1 z a b out i k true) (fun z => ?_) (Ev.step (f := fun z => feature_Unify.j2 z a b out i k true) (fun z => ?_) (Ev.step (f := fun z => feature_Unify.l0 z a b (out ++ [x]) ((i + 1 : Nat) : Int) k) (fun z => ?_) hr))
          · simp only [feature_Unify.l0]
            rw [if_pos (by omega)]
          · simp only [feature_Unify.j1]
            rw [if_pos trivial, if_pos (by omega)]
          · simp only [feature_Unify.j2]
            rw [if_pos trivial, if_pos (by omega), if_pos (by omega), if_pos (by omega), hx, w64 (by omega) (by omega)]
            rfl
        · rcases hm with ⟨h1, m, h2, h3, h4⟩ | ⟨h1, h2⟩
          · refine .inl ⟨fun k v w h1 h2 => (by cases h2), x :: m, by rw [h2]; simp, ?_, by simp at h4 ⊢; omega⟩
            exact isU_cons (x := im x) (fun z hz => aA.1 z hz) (fun z hz => by cases hz) h3
          · exact absurd (fun k v w h1 h2 => by cases h2) h1
      | cons y B =>
        obtain ⟨hkl, hy, hB'⟩ := rest hB
        have st1 : ∀ r, Ev (fun z => feature_Unify.j2 z a b out i k (ls x.f0.toList y.f0.toList)) r → Ev (fun z => feature_Unify.l0 z a b out i k) r := by
          intro r hr
          refine Ev.step (f := fun z => feature_Unify.j1 z a b out i k true) (fun z => ?_) (Ev.step (f := fun z => feature_Unify.j2 z a b out i k (ls x.f0.toList y.f0.toList)) (fun z => ?_) hr)
          · simp only [feature_Unify.l0]
            rw [if_pos (by omega)]
          · simp only [feature_Unify.j1]
            rw [if_pos trivial, if_neg (by omega), if_pos (by omega), if_pos (by omega), if_pos (by omega), if_pos (by omega), hx, hy]
            rfl
        by_cases hlt : ls x.f0.toList y.f0.toList = true
        · obtain ⟨r, hr, hm⟩ := ih (i + 1) k (out ++ [x]) A (y :: B) hA' hB (by omega) hk (by simp at hn ⊢; omega) (by simp; omega) (asc_tail aA) aB
          have hxb : ∀ z ∈ ims (y :: B), ls (im x).1 z.1 = true := by
            intro z hz
            rcases List.mem_cons.1 hz with rfl | hz
            · exact hlt
            · exact ls_trans _ _ _ hlt (aB.1 z hz)
          refine ⟨r, st1 r ?_, ?_⟩
          · rw [hlt]
            refine Ev.step (f := fun z => feature_Unify.l0 z a b (out ++ [x]) ((i + 1 : Nat) : Int) k) (fun z => ?_) hr
            simp only [feature_Unify.j2]
            rw [if_pos trivial, if_pos (by omega), if_pos (by omega), if_pos (by omega), hx, w64 (by omega) (by omega)]
            rfl
          · rcases hm with ⟨h1, m, h2, h3, h4⟩ | ⟨h1, h2⟩
            · exact .inl ⟨(fit_drop_left (x := im x) hxb).2 h1, x :: m, by rw [h2]; simp, isU_cons (x := im x) (fun z hz => aA.1 z hz) hxb h3, by simp at h4 ⊢; omega⟩
            · exact .inr ⟨fun hh => h1 ((fit_drop_left (x := im x) hxb).1 hh), h2⟩
        · have hlt' : ls x.f0.toList y.f0.toList = false := by simpa using hlt
          have st2 : ∀ r, Ev (fun z => feature_Unify.j3 z a b out i k (ls y.f0.toList x.f0.toList)) r → Ev (fun z => feature_Unify.l0 z a b out i k) r := by
            intro r hr
            refine st1 r ?_
            rw [hlt']
            refine Ev.step (f := fun z => feature_Unify.j3 z a b out i k (ls y.f0.toList x.f0.toList)) (fun z => ?_) hr
            simp only [feature_Unify.j2]
            rw [if_neg (by decide), if_neg (by omega), if_pos (by omega), if_pos (by omega), if_pos (by omega), if_pos (by omega), hx, hy]
            rfl
          by_cases hgt : ls y.f0.toList x.f0.toList = true
          · obtain ⟨r, hr, hm⟩ := ih i (k + 1) (out ++ [y]) (x :: A) B hA hB' hi (by omega) (by simp at hn ⊢; omega) (by simp; omega) aA (asc_tail aB)
            have hyb : ∀ z ∈ ims (x :: A), ls (im y).1 z.1 = true := by
              intro z hz
              rcases List.mem_cons.1 hz with rfl | hz
              · exact hgt
              · exact ls_trans _ _ _ hgt (aA.1 z hz)
            refine ⟨r, st2 r ?_, ?_⟩
            · rw [hgt]
              refine Ev.step (f := fun z => feature_Unify.l0 z a b (out ++ [y]) i ((k + 1 : Nat) : Int)) (fun z => ?_) hr
              simp only [feature_Unify.j3]
              rw [if_pos trivial, if_pos (by omega), if_pos (by omega), if_pos (by omega), hy, w64 (by omega) (by omega)]
              rfl
            · have hfit : Fit (ims (x :: A)) (ims (y :: B)) ↔ Fit (ims (x :: A)) (ims B) := fit_comm.trans ((fit_drop_left (x := im y) hyb).trans fit_comm)
              rcases hm with ⟨h1, m, h2, h3, h4⟩ | ⟨h1, h2⟩
              · have hf := hfit.2 h1
                exact .inl ⟨hf, y :: m, by rw [h2]; simp, isU_comm hf (isU_cons (x := im y) (fun z hz => aB.1 z hz) hyb (isU_comm (fit_symm h1) h3)), by simp at h4 ⊢; omega⟩
              · exact .inr ⟨fun hh => h1 (hfit.1 hh), h2⟩
          · have hgt' : ls y.f0.toList x.f0.toList = false := by simpa using hgt
            have hkey : x.f0.toList = y.f0.toList := by
              rcases ls_tri x.f0.toList y.f0.toList with h | h | h
              · rw [hlt'] at h; cases h
              · exact h
              · rw [hgt'] at h; cases h
            by_cases hv : x.f1.toList = y.f1.toList
            · obtain ⟨r, hr, hm⟩ := ih (i + 1) (k + 1) (out ++ [x]) A B hA' hB' (by omega) (by omega) (by simp at hn ⊢; omega) (by simp; omega) (asc_tail aA) (asc_tail aB) |> fun h => h
              refine ⟨r, st2 r ?_, ?_⟩
              · rw [hgt']
                refine Ev.step (f := fun z => feature_Unify.l0 z a b (out ++ [x]) ((i + 1 : Nat) : Int) ((k + 1 : Nat) : Int)) (fun z => ?_) hr
                simp only [feature_Unify.j3]
                rw [if_neg (by decide), if_pos (by omega), if_pos (by omega), if_pos (by omega), if_pos (by omega), hx, hy, if_pos hv, if_pos (by omega), w64 (by omega) (by omega), w64 (by omega) (by omega)]
                rfl
              · have hf := fit_both (x := im x) (y := im y) (a := ims A) (b := ims B) hkey hv (fun z hz => aA.1 z hz) (fun z hz => aB.1 z hz)
                rcases hm with ⟨h1, m, h2, h3, h4⟩ | ⟨h1, h2⟩
                · exact .inl ⟨hf.2 h1, x :: m, by rw [h2]; simp, isU_both (x := im x) (y := im y) (Prod.ext hkey hv) (fun z hz => aA.1 z hz) (fun z hz => aB.1 z hz) h3, by simp at h4 ⊢; omega⟩
                · exact .inr ⟨fun hh => h1 (hf.1 hh), h2⟩
            · refine ⟨([], false), st2 _ ?_, .inr ⟨fun hh => hv ?_, rfl⟩⟩
              · rw [hgt']
                refine Ev.step (f := fun _ => some ([], false)) (fun z => ?_) (Ev.now _)
                simp only [feature_Unify.j3]
                rw [if_neg (by decide), if_pos (by omega), if_pos (by omega), if_pos (by omega), if_pos (by omega), hx, hy, if_neg hv]
              · exact hh x.f0.toList x.f1.toList y.f1.toList (by simp [ims, im, get]) (by simp [ims, im, get, hkey])
/-- UNIFY. -/
theorem unify (a b : List S33) (hlen : a.length + b.length ≤ 4000000000) (ha : Asc (ims a)) (hb : Asc (ims b)) : ∃ r, Ev (fun z => feature_Unify.f z a b) r ∧ Merged a b [] r := by
  obtain ⟨r, hr, hm⟩ := unify_loop a b hlen (a.length + b.length) 0 0 [] a b rfl rfl (Nat.zero_le _) (Nat.zero_le _) (Nat.le_refl _) (by simp) ha hb
  refine ⟨r, Ev.congr (fun z => ?_) hr, hm⟩
  unfold feature_Unify.f
  rw [w64 (by omega) (by omega), if_pos (by omega), if_pos (by omega)]
  rfl
end Go.Proofs.Ytnfdhfclibdbmaa.Ft
