/- Plain facts on the printed functions of the feature records: the reference's Record, Index, Put, Unify and Same, and the program's Subsumes. -/
import Derived.Test.YtnfdhfclibdbmaaPx0
import Derived.Test.YtnfdhfclibdbmaaPx3
import Derived.Test.YtnfdhfclibdbmaaPx4
import Derived.Test.YtnfdhfclibdbmaaPx5
import Derived.Test.YtnfdhfclibdbmaaFtU
namespace Go.Proofs.Ytnfdhfclibdbmaa.Ft
open Go
set_option linter.unusedVariables false
set_option linter.unusedSimpArgs false
open Go.RowKit Go.Proofs.Ytnfdhfclibdbmaa.P Go.Proofs.YtnfdhfclibdbmaaW.PrintWords Go.Proofs.YtnfdhfclibdbmaaW.PrintLast

theorem asc_step {x y : Key × Key} {t : Rec} : Asc (x :: y :: t) ↔ ls x.1 y.1 = true ∧ Asc (y :: t) := by
  constructor
  · intro h; exact ⟨h.1 y List.mem_cons_self, h.2⟩
  · rintro ⟨h1, h2⟩
    refine ⟨fun z hz => ?_, h2⟩
    rcases List.mem_cons.1 hz with rfl | hz
    · exact h1
    · exact ls_trans _ _ _ h1 (h2.1 z hz)
theorem ims_cons (x : S33) (l : List S33) : ims (x :: l) = im x :: ims l := rfl
theorem rd_cons {l t : List S33} {x : S33} {i : Nat} (h : l.drop i = x :: t) : rd_T33 l (i : Int) = x := (rest h).2.1
/-- RECORD. -/
theorem record_loop (r : List S33) (hlen : r.length ≤ 4000000000) : ∀ (T : List S33) (i : Nat) (x : S33), r.drop i = x :: T → ∃ v, Ev (fun z => pentaglotref02_Record.l0 z r ((i + 1 : Nat) : Int)) v ∧ (v = true ↔ Asc (ims (x :: T))) := by
  intro T
  induction T with
  | nil =>
    intro i x h
    obtain ⟨hi, hx, h'⟩ := rest h
    have := rest_nil (by omega) h'
    refine ⟨true, Ev.step (f := fun _ => some true) (fun z => ?_) (Ev.now _), by simp [ims, Asc]⟩
    simp only [pentaglotref02_Record.l0]
    rw [if_neg (by omega)]
  | cons y T ih =>
    intro i x h
    obtain ⟨hi, hx, h'⟩ := rest h
    obtain ⟨hi', hy, h2⟩ := rest h'
    obtain ⟨v, hv, hm⟩ := ih (i + 1) y h'
    have e1 : wrap64 (((i + 1 : Nat) : Int) - 1) = (i : Int) := by rw [w64 (by omega) (by omega)]; omega
    have e2 : wrap64 (((i + 1 : Nat) : Int) + 1) = ((i + 1 + 1 : Nat) : Int) := by rw [w64 (by omega) (by omega)]; omega
    by_cases hl : ls x.f0.toList y.f0.toList = true
    · refine ⟨v, Ev.step (fun z => ?_) hv, hm.trans ?_⟩
      · simp only [pentaglotref02_Record.l0]
        rw [if_pos (by omega), e1, if_pos (by omega), if_pos (by omega), if_pos (by omega), hx, hy, if_pos (show Op.bytesLess _ _ = true from hl), e2]
      · rw [ims_cons x, ims_cons y, asc_step]
        exact ⟨fun h => ⟨hl, h⟩, fun h => h.2⟩
    · refine ⟨false, Ev.step (f := fun _ => some false) (fun z => ?_) (Ev.now _), ?_⟩
      · simp only [pentaglotref02_Record.l0]
        rw [if_pos (by omega), e1, if_pos (by omega), if_pos (by omega), if_pos (by omega), hx, hy, if_neg (show ¬ Op.bytesLess _ _ = true from hl)]
      · rw [ims_cons x, ims_cons y, asc_step]
        exact ⟨fun h => (by cases h), fun h => absurd h.1 hl⟩
theorem record (r : List S33) (hlen : r.length ≤ 4000000000) : ∃ v, Ev (fun z => pentaglotref02_Record.f z r) v ∧ (v = true ↔ Asc (ims r)) := by
  cases r with
  | nil =>
    refine ⟨true, Ev.step (f := fun _ => some true) (fun z => ?_) (Ev.now _), by simp [ims, Asc]⟩
    simp [pentaglotref02_Record.f, pentaglotref02_Record.l0]
  | cons x T => exact record_loop (x :: T) hlen T 0 x rfl
/-- INDEX. -/
def Found (r : List S33) (n : Key) (i : Int) : Prop := (i = -1 ∧ get (ims r) n = none) ∨ (0 ≤ i ∧ i < (r.length : Int) ∧ get (ims r) n = some (rd_T33 r i).f1.toList)
theorem index_loop (r : List S33) (hlen : r.length ≤ 4000000000) (n : ByteArray) : ∀ (R : List S33) (i : Nat), r.drop i = R → i ≤ r.length → ∃ v, Ev (fun z => pentaglotref02_Index.l0 z r n (i : Int)) v ∧ ((v = -1 ∧ get (ims R) n.toList = none) ∨ (0 ≤ v ∧ v < (r.length : Int) ∧ get (ims R) n.toList = some (rd_T33 r v).f1.toList)) := by
  intro R
  induction R with
  | nil =>
    intro i h hi
    have := rest_nil hi h
    refine ⟨-1, Ev.step (f := fun _ => some (-1)) (fun z => ?_) (Ev.now _), .inl ⟨rfl, rfl⟩⟩
    simp only [pentaglotref02_Index.l0]
    rw [if_neg (by omega)]
  | cons x R ih =>
    intro i h hi'
    obtain ⟨hi, hx, h'⟩ := rest h
    by_cases e : x.f0.toList = n.toList
    · refine ⟨(i : Int), Ev.step (f := fun _ => some (i : Int)) (fun z => ?_) (Ev.now _), .inr ⟨by omega, by omega, ?_⟩⟩
      · simp only [pentaglotref02_Index.l0]
        rw [if_pos (by omega), if_pos (by omega), hx, if_pos e]
      · rw [hx, ims_cons, get, if_pos (by exact e)]; rfl
    · obtain ⟨v, hv, hm⟩ := ih (i + 1) h' (by omega)
      refine ⟨v, Ev.step (fun z => ?_) hv, ?_⟩
      · simp only [pentaglotref02_Index.l0]
        rw [if_pos (by omega), if_pos (by omega), hx, if_neg e, w64 (by omega) (by omega)]
        rfl
      · rw [ims_cons, get, if_neg (by exact e)]
        exact hm
theorem index (r : List S33) (hlen : r.length ≤ 4000000000) (n : ByteArray) : ∃ v, Ev (fun z => pentaglotref02_Index.f z r n) v ∧ Found r n.toList v := index_loop r hlen n r 0 rfl (Nat.zero_le _)
/-- PUT. -/
theorem put_loop (r : List S33) (hlen : r.length ≤ 4000000000) (fn fv : ByteArray) (hA : Asc (ims r)) (hn : get (ims r) fn.toList = none) : ∀ (R : List S33) (i : Nat) (pre : List S33), r = pre ++ R → pre.length = i → (∀ y ∈ pre, ls y.f0.toList fn.toList = true) →
    ∃ m, Ev (fun z => pentaglotref02_Put.l0 z r pre (i : Int) fn fv) m ∧ IsU (ims r) [im ⟨fn, fv⟩] (ims m) ∧ m.length = r.length + 1 := by
  intro R
  have key : ∀ (pre R : List S33), r = pre ++ R → (∀ y ∈ pre, ls y.f0.toList fn.toList = true) → (∀ y ∈ R, ls fn.toList y.f0.toList = true) → IsU (ims r) [im ⟨fn, fv⟩] (ims (pre ++ [⟨fn, fv⟩] ++ R)) := by
    intro pre R hr h1 h2
    rw [hr, ims_append] at hA hn
    obtain ⟨a1, a2, a3⟩ := asc_append.1 hA
    refine ⟨?_, fun k => ?_⟩
    · rw [ims_append, ims_append]
      refine asc_append.2 ⟨asc_snoc a1 (fun y hy => ?_), a2, fun x hx y hy => ?_⟩
      · obtain ⟨y', hy', rfl⟩ := List.mem_map.1 hy
        exact h1 y' hy'
      · rcases List.mem_append.1 hx with hx | hx
        · exact a3 x hx y hy
        · obtain ⟨y', hy', rfl⟩ := List.mem_map.1 hy
          rw [List.mem_singleton.1 hx]
          exact h2 y' hy'
    · rw [ims_append, ims_append, hr, ims_append, get_append, get_append, get_append]
      by_cases e : fn.toList = k
      · subst e
        rw [get_append] at hn
        obtain ⟨n1, n2⟩ := Option.or_eq_none_iff.1 hn
        rw [n1, n2]
        simp [ims]
      · have : get (ims [⟨fn, fv⟩]) k = none := by simp [ims, im, get, e]
        rw [this]
        have : get [im ⟨fn, fv⟩] k = none := by simp [im, get, e]
        rw [this]
        simp
  induction R with
  | nil =>
    intro i pre hr hi hpre
    have hri : r.length = i := by rw [hr]; simpa using hi
    refine ⟨pre ++ [⟨fn, fv⟩], Ev.step (f := fun _ => some (pre ++ [⟨fn, fv⟩])) (fun z => ?_) (Ev.now _), ?_, by rw [hr]; simp⟩
    · simp only [pentaglotref02_Put.l0]
      rw [if_neg (by omega), if_pos (by omega)]
      simp only [Option.bind_some]
      rw [if_pos (by omega), if_pos (by omega)]
      simp only [Option.bind_some, Int.toNat_natCast]
      rw [List.drop_of_length_le (by omega), if_pos (by simp; omega)]
      simp
    · have := key pre [] hr hpre (fun y hy => by cases hy)
      simpa using this
  | cons x R ih =>
    intro i pre hr hi hpre
    have hd : r.drop i = x :: R := by rw [hr, ← hi, List.drop_left]
    have hri : r.length = i + (R.length + 1) := by rw [hr]; simp [hi]
    obtain ⟨hil, hx, hd'⟩ := rest hd
    by_cases e : ls x.f0.toList fn.toList = true
    · obtain ⟨m, hm, h2⟩ := ih (i + 1) (pre ++ [x]) (by rw [hr]; simp) (by simp [hi]) (fun y hy => by
        rcases List.mem_append.1 hy with hy | hy
        · exact hpre y hy
        · rw [List.mem_singleton.1 hy]; exact e)
      refine ⟨m, Ev.step (fun z => ?_) hm, h2⟩
      simp only [pentaglotref02_Put.l0]
      rw [if_pos (by omega), if_pos (by omega), hx, if_pos (show Op.bytesLess _ _ = true from e), if_pos (by omega), w64 (by omega) (by omega)]
      rfl
    · refine ⟨pre ++ [⟨fn, fv⟩] ++ (x :: R), Ev.step (f := fun _ => some (pre ++ [⟨fn, fv⟩] ++ (x :: R))) (fun z => ?_) (Ev.now _), ?_, by rw [hr]; simp; omega⟩
      · simp only [pentaglotref02_Put.l0]
        rw [if_pos (by omega), if_pos (by omega), hx, if_neg (show ¬ Op.bytesLess _ _ = true from e), if_pos (by omega)]
        simp only [Option.bind_some]
        rw [if_pos (by omega)]
        simp only [Option.bind_some, Int.toNat_natCast]
        rw [hd, if_pos (by simp; omega)]
      · have hne : x.f0.toList ≠ fn.toList := by
          intro h
          rw [hr, ims_append, get_append] at hn
          have := (Option.or_eq_none_iff.1 hn).2
          rw [ims_cons, get, if_pos (by exact h)] at this
          cases this
        have hgt : ls fn.toList x.f0.toList = true := ls_not (by simpa using e) hne
        refine key pre (x :: R) hr hpre (fun y hy => ?_)
        rcases List.mem_cons.1 hy with rfl | hy
        · exact hgt
        · rw [hr, ims_append] at hA
          exact ls_trans _ _ _ hgt ((asc_append.1 hA).2.1.1 (im y) (List.mem_map_of_mem hy))
theorem put (r : List S33) (hlen : r.length ≤ 4000000000) (fn fv : ByteArray) (hA : Asc (ims r)) (hn : get (ims r) fn.toList = none) : ∃ m, Ev (fun z => pentaglotref02_Put.f z r fn fv) m ∧ IsU (ims r) [im ⟨fn, fv⟩] (ims m) ∧ m.length = r.length + 1 :=
  put_loop r hlen fn fv hA hn r 0 [] rfl rfl (fun y hy => by cases hy)
/-- SAME. -/
theorem same_loop (a b : List S33) (hlen : a.length ≤ 4000000000) (hl : a.length = b.length) : ∀ (A B : List S33) (i : Nat), a.drop i = A → b.drop i = B → i ≤ a.length → Ev (fun z => pentaglotref02_Same.l0 z a b (i : Int)) (decide (ims A = ims B)) := by
  intro A
  induction A with
  | nil =>
    intro B i hA hB hi
    have := rest_nil hi hA
    have : B = [] := by rw [← hB]; exact List.drop_of_length_le (by omega)
    subst this
    refine Ev.step (f := fun _ => some true) (fun z => ?_) (Ev.now _)
    simp only [pentaglotref02_Same.l0]
    rw [if_neg (by omega)]
  | cons x A ih =>
    intro B i hA hB hi
    obtain ⟨hil, hx, hA'⟩ := rest hA
    cases B with
    | nil => have := rest_nil (by omega) hB; omega
    | cons y B =>
      obtain ⟨hil', hy, hB'⟩ := rest hB
      by_cases e : im x = im y
      · have : decide (ims (x :: A) = ims (y :: B)) = decide (ims A = ims B) := by rw [ims_cons, ims_cons, e]; simp
        rw [this]
        refine Ev.step (fun z => ?_) (ih B (i + 1) hA' hB' (by omega))
        have e1 := congrArg Prod.fst e
        have e2 := congrArg Prod.snd e
        simp only [im] at e1 e2
        simp only [pentaglotref02_Same.l0]
        rw [if_pos (by omega), if_pos (by omega), if_pos (by omega), hx, hy, e1, e2, if_neg (by simp), w64 (by omega) (by omega)]
        rfl
      · have : decide (ims (x :: A) = ims (y :: B)) = false := by simp [ims, e]
        rw [this]
        refine Ev.step (f := fun _ => some false) (fun z => ?_) (Ev.now _)
        simp only [pentaglotref02_Same.l0]
        rw [if_pos (by omega), if_pos (by omega), if_pos (by omega), hx, hy, if_pos ?_]
        simp only [im, Prod.mk.injEq, not_and] at e
        simp only [Bool.or_eq_true, Bool.not_eq_true', beq_eq_false_iff_ne, ne_eq]
        by_cases h : x.f0.toList = y.f0.toList
        · exact .inr (e h)
        · exact .inl h
theorem same (a b : List S33) (hlen : a.length ≤ 4000000000) : Ev (fun z => pentaglotref02_Same.f z a b) (decide (ims a = ims b)) := by
  by_cases hl : a.length = b.length
  · refine Ev.congr (fun z => ?_) (same_loop a b hlen hl a b 0 rfl rfl (Nat.zero_le _))
    unfold pentaglotref02_Same.f
    rw [if_pos (by omega)]
    rfl
  · have : decide (ims a = ims b) = false := by
      rw [decide_eq_false_iff_not]
      intro h
      have := congrArg List.length h
      rw [ims_length, ims_length] at this
      exact hl this
    rw [this]
    refine Ev.congr (fun z => ?_) (Ev.now false)
    unfold pentaglotref02_Same.f
    rw [if_neg (by omega)]
/-- REF UNIFY. -/
def RMerged (a b : List S33) (r : List S33 × Bool) : Prop :=
  (Fit (ims a) (ims b) ∧ ∃ m, r = (m, true) ∧ IsU (ims a) (ims b) (ims m)) ∨ (¬ Fit (ims a) (ims b) ∧ r = ([], false))
theorem runify_loop (a b : List S33) (hlen : a.length + b.length ≤ 4000000000) (hb : Asc (ims b)) : ∀ (B : List S33) (i : Nat) (pre out : List S33), b = pre ++ B → pre.length = i → out.length ≤ a.length + i → Fit (ims a) (ims pre) → IsU (ims a) (ims pre) (ims out) →
    ∃ r, Ev (fun z => pentaglotref02_Unify.l0 z a b out (i : Int)) r ∧ RMerged a b r := by
  intro B
  induction B with
  | nil =>
    intro i pre out h hi ho hf hu
    have : b.length = i := by rw [h]; simpa using hi
    have hp : pre = b := by rw [h]; simp
    rw [hp] at hf hu
    refine ⟨(out, true), Ev.step (f := fun _ => some (out, true)) (fun z => ?_) (Ev.now _), .inl ⟨hf, out, rfl, hu⟩⟩
    simp only [pentaglotref02_Unify.l0]
    rw [if_neg (by omega)]
  | cons y B ih =>
    intro i pre out h hi ho hf hu
    have hd : b.drop i = y :: B := by rw [h, ← hi, List.drop_left]
    have hbl : b.length = i + (B.length + 1) := by rw [h]; simp [hi]
    obtain ⟨hil, hy, hd'⟩ := rest hd
    obtain ⟨v, hv, hF⟩ := index a (by omega) y.f0
    have hpy : get (ims pre) y.f0.toList = none := by
      rw [h, ims_append] at hb
      have h3 := (asc_append.1 hb).2.2
      refine get_none (fun z hz => ls_ne (h3 z hz (im y) List.mem_cons_self))
    have hgy : ∀ k, get (ims (pre ++ [y])) k = (get (ims pre) k).or (if y.f0.toList = k then some y.f1.toList else none) := by
      intro k
      rw [ims_append, get_append]
      simp [ims, im, get]
    have st : ∀ r, Ev (fun z => if v ≥ 0 then (if 0 ≤ v then (if v < (a.length : Int) then (pentaglotref02_Unify.j1 z a b out i v (((rd_T33 a v).f1).toList != (y.f1).toList)) else (none)) else (none)) else (pentaglotref02_Unify.j1 z a b out i v false)) r → Ev (fun z => pentaglotref02_Unify.l0 z a b out (i : Int)) r := by
      intro r hr
      refine Ev.step (fun z => ?_) (Ev.bind (f := fun z t => if t ≥ 0 then (if 0 ≤ t then (if t < (a.length : Int) then (pentaglotref02_Unify.j1 z a b out i t (((rd_T33 a t).f1).toList != (y.f1).toList)) else (none)) else (none)) else (pentaglotref02_Unify.j1 z a b out i t false)) hv hr)
      simp only [pentaglotref02_Unify.l0]
      rw [if_pos (by omega), if_pos (by omega), hy]
    rcases hF with ⟨rfl, hg⟩ | ⟨h0, h1, hg⟩
    · -- the name is new
      obtain ⟨m, hm, hmu, hml⟩ := put out (by omega) y.f0 y.f1 hu.1 (by rw [hu.2, hg, hpy]; rfl)
      have hf' : Fit (ims a) (ims (pre ++ [y])) := by
        intro k v w e1 e2
        rw [hgy] at e2
        by_cases e : y.f0.toList = k
        · rw [← e, hg] at e1; cases e1
        · rw [if_neg e] at e2
          exact hf k v w e1 (by simpa using e2)
      have hu' : IsU (ims a) (ims (pre ++ [y])) (ims m) := by
        refine ⟨hmu.1, fun k => ?_⟩
        rw [hmu.2, hu.2, hgy]
        by_cases e : y.f0.toList = k
        · rw [if_pos e, ← e, hg, hpy]; simp [im, get]
        · rw [if_neg e]; simp [im, get, e]
      obtain ⟨r, hr, hR⟩ := ih (i + 1) (pre ++ [y]) m (by rw [h]; simp) (by simp [hi]) (by omega) hf' hu'
      refine ⟨r, st r ?_, hR⟩
      refine Ev.congr (f := fun z => pentaglotref02_Unify.j1 z a b out i (-1) false) (fun z => by rw [if_neg (by decide)]) ?_
      refine Ev.step (fun z => ?_) (Ev.bind (f := fun z m => pentaglotref02_Unify.l0 z a b m ((i + 1 : Nat) : Int)) hm hr)
      simp only [pentaglotref02_Unify.j1]
      rw [if_neg (by decide), if_pos (by decide), if_pos (by omega), if_pos (by omega), hy, w64 (by omega) (by omega)]
      rfl
    · by_cases e : (rd_T33 a v).f1.toList = y.f1.toList
      · have hf' : Fit (ims a) (ims (pre ++ [y])) := by
          intro k v' w e1 e2
          rw [hgy] at e2
          by_cases ek : y.f0.toList = k
          · subst ek
            rw [hpy, if_pos rfl] at e2
            rw [hg] at e1
            simp only [Option.none_or, Option.some.injEq] at e1 e2
            rw [← e1, ← e2]
            exact e
          · rw [if_neg ek] at e2
            exact hf k v' w e1 (by simpa using e2)
        have hu' : IsU (ims a) (ims (pre ++ [y])) (ims out) := by
          refine ⟨hu.1, fun k => ?_⟩
          rw [hu.2, hgy]
          by_cases ek : y.f0.toList = k
          · rw [if_pos ek, ← ek, hg]; rfl
          · rw [if_neg ek]; simp
        obtain ⟨r, hr, hR⟩ := ih (i + 1) (pre ++ [y]) out (by rw [h]; simp) (by simp [hi]) (by omega) hf' hu'
        refine ⟨r, st r ?_, hR⟩
        refine Ev.congr (f := fun z => pentaglotref02_Unify.j1 z a b out i v false) (fun z => by rw [if_pos h0, if_pos h0, if_pos h1, e, bne_self_eq_false]) ?_
        refine Ev.step (fun z => ?_) hr
        simp only [pentaglotref02_Unify.j1]
        rw [if_neg (by decide), if_neg (by omega), w64 (by omega) (by omega)]
        rfl
      · refine ⟨([], false), st _ ?_, .inr ⟨fun hh => e ?_, rfl⟩⟩
        · refine Ev.congr (f := fun z => pentaglotref02_Unify.j1 z a b out i v true) (fun z => ?_) (Ev.step (f := fun _ => some ([], false)) (fun z => ?_) (Ev.now _))
          · rw [if_pos h0, if_pos h0, if_pos h1]
            congr 1
            simpa using e
          · simp only [pentaglotref02_Unify.j1]
            rw [if_pos trivial]
        · refine hh y.f0.toList _ _ hg ?_
          rw [h, ims_append, get_append, hpy, ims_cons, get, if_pos (show (im y).1 = y.f0.toList from rfl)]
          rfl
theorem runify (a b : List S33) (hlen : a.length + b.length ≤ 4000000000) (ha : Asc (ims a)) (hb : Asc (ims b)) : ∃ r, Ev (fun z => pentaglotref02_Unify.f z a b) r ∧ RMerged a b r := by
  obtain ⟨r, hr, hR⟩ := runify_loop a b hlen hb b 0 [] a rfl rfl (by omega) (fun k v w h1 h2 => by cases h2) ⟨ha, fun k => by simp [ims, get]⟩
  refine ⟨r, Ev.congr (fun z => ?_) hr, hR⟩
  unfold pentaglotref02_Unify.f
  simp only [Option.bind_some]
  rw [if_pos (by simp; omega)]
  rfl
/-- SUBSUMES. -/
theorem subsumes_loop (a b : List S33) (hlen : a.length + b.length ≤ 4000000000) : ∀ (A : List S33) (i : Nat), a.drop i = A → i ≤ a.length → Asc (ims A) → ∀ (B : List S33) (k : Nat), b.drop k = B → k ≤ b.length → Asc (ims B) →
    ∃ v, Ev (fun z => feature_Subsumes.l0 z b (k : Int) a (a.length : Int) (i : Int)) v ∧ (v = true ↔ Sub (ims A) (ims B)) := by
  intro A
  induction A with
  | nil =>
    intro i h hi _ B k hB hk _
    have := rest_nil hi h
    refine ⟨true, Ev.step (f := fun _ => some true) (fun z => ?_) (Ev.now _), fun _ => sub_nil _, fun _ => rfl⟩
    simp only [feature_Subsumes.l0]
    rw [if_neg (by omega)]
  | cons x A ih =>
    intro i h hi hA
    obtain ⟨hil, hx, h'⟩ := rest h
    have inner : ∀ (B : List S33) (k : Nat), b.drop k = B → k ≤ b.length → Asc (ims B) → ∃ v, Ev (fun z => feature_Subsumes.l1 z b (k : Int) a (a.length : Int) (i : Int) x.f0 x.f1) v ∧ (v = true ↔ Sub (ims (x :: A)) (ims B)) := by
      intro B
      induction B with
      | nil =>
        intro k hB hk _
        have := rest_nil hk hB
        refine ⟨false, Ev.step (f := fun _ => some false) (fun z => ?_) (Ev.now _), fun h => (by cases h), fun h => ?_⟩
        · simp only [feature_Subsumes.l1]
          rw [if_neg (by omega), if_pos (by omega)]
        · have := h x.f0.toList x.f1.toList (by simp [ims, im, get])
          cases this
      | cons y B ihB =>
        intro k hB hk aB
        obtain ⟨hkl, hy, hB'⟩ := rest hB
        by_cases e : ls y.f0.toList x.f0.toList = true
        · obtain ⟨v, hv, hV⟩ := ihB (k + 1) hB' (by omega) (asc_tail aB)
          refine ⟨v, Ev.step (fun z => ?_) hv, hV.trans ?_⟩
          · simp only [feature_Subsumes.l1]
            rw [if_pos (by omega), if_pos (by omega), hy, if_pos (show Op.bytesLess _ _ = true from e), w64 (by omega) (by omega)]
            rfl
          · have key : ∀ q w, get (ims (x :: A)) q = some w → get (ims (y :: B)) q = get (ims B) q := by
              intro q w hq
              rw [ims_cons, get, if_neg]
              intro hh
              have hm := get_mem hq
              rcases List.mem_cons.1 hm with hm | hm
              · have : q = x.f0.toList := congrArg Prod.fst hm
                have h9 : y.f0.toList = x.f0.toList := hh.trans this
                rw [h9, ls_irrefl] at e; cases e
              · have h1 := hA.1 _ hm
                have h2 := ls_trans _ _ _ e h1
                have h9 : y.f0.toList = q := hh
                rw [h9, ls_irrefl] at h2; cases h2
            exact ⟨fun hs q w hq => by rw [key q w hq]; exact hs q w hq, fun hs q w hq => by rw [← key q w hq]; exact hs q w hq⟩
        · have cut : ∀ r, Ev (fun z => if (!((y.f0.toList) == x.f0.toList) || (!((y.f1.toList) == x.f1.toList))) = true then (some false) else (feature_Subsumes.l0 z b (wrap64 ((k : Int) + 1)) a (a.length : Int) (wrap64 ((i : Int) + 1)))) r → Ev (fun z => feature_Subsumes.l1 z b (k : Int) a (a.length : Int) (i : Int) x.f0 x.f1) r := by
            intro r hr
            refine Ev.step (fun z => ?_) hr
            simp only [feature_Subsumes.l1]
            rw [if_pos (by omega), if_pos (by omega), hy, if_neg (show ¬ Op.bytesLess _ _ = true from e), if_neg (by omega)]
          by_cases e1 : im x = im y
          · obtain ⟨v, hv, hV⟩ := ih (i + 1) h' (by omega) (asc_tail hA) B (k + 1) hB' (by omega) (asc_tail aB)
            have e2 : x.f0.toList = y.f0.toList := congrArg Prod.fst e1
            have e3 : x.f1.toList = y.f1.toList := congrArg Prod.snd e1
            refine ⟨v, cut v (Ev.congr (fun z => ?_) hv), hV.trans ?_⟩
            · rw [e2, e3, if_neg (by simp), w64 (by omega) (by omega), w64 (by omega) (by omega)]
              rfl
            · rw [ims_cons, ims_cons, ← e1]
              constructor
              · intro hs q w hq
                rw [get] at hq ⊢
                by_cases eq : (im x).1 = q
                · rw [if_pos eq] at hq ⊢; exact hq
                · rw [if_neg eq] at hq ⊢; exact hs q w hq
              · intro hs q w hq
                have hne : (im x).1 ≠ q := ls_ne (hA.1 _ (get_mem hq))
                have := hs q w (by rw [get, if_neg hne]; exact hq)
                rwa [get, if_neg hne] at this
          · refine ⟨false, cut false (Ev.congr (fun z => ?_) (Ev.now false)), fun h => (by cases h), fun hs => ?_⟩
            · rw [if_pos]
              simp only [Bool.or_eq_true, Bool.not_eq_true', beq_eq_false_iff_ne, ne_eq]
              by_cases h : y.f0.toList = x.f0.toList
              · refine .inr (fun hh => e1 (Prod.ext h.symm hh.symm))
              · exact .inl h
            · have h1 := hs x.f0.toList x.f1.toList (by simp [ims, im, get])
              exfalso
              rw [ims_cons, get] at h1
              by_cases h : (im y).1 = x.f0.toList
              · rw [if_pos h] at h1
                injection h1 with h1
                exact e1 (Prod.ext h.symm h1.symm)
              · rw [if_neg h] at h1
                have h2 := aB.1 _ (get_mem h1)
                exact e h2
    intro B k hB hk aB
    obtain ⟨v, hv, hV⟩ := inner B k hB hk aB
    refine ⟨v, Ev.step (fun z => ?_) hv, hV⟩
    simp only [feature_Subsumes.l0]
    rw [if_pos (by omega), if_pos (by omega), if_pos (by omega), hx]
theorem subsumes (a b : List S33) (hlen : a.length + b.length ≤ 4000000000) (ha : Asc (ims a)) (hb : Asc (ims b)) : ∃ v, Ev (fun z => feature_Subsumes.f z a b) v ∧ (v = true ↔ Sub (ims a) (ims b)) :=
  subsumes_loop a b hlen a 0 rfl (Nat.zero_le _) ha b 0 rfl (Nat.zero_le _) hb
theorem awake : Ev (fun z => pentaglotlaw02_awake.f z) true := Ev.of pentaglotlaw02_awake.mono (k := 60) (by decide +kernel)
theorem len_bulk : ∀ l : List S33, l.length ≤ (l.map bulk33).sum
  | [] => by simp
  | x :: l => by have := len_bulk l; simp [bulk33]; omega
end Go.Proofs.Ytnfdhfclibdbmaa.Ft
