/- Plain facts: picking features of a record; Meet, Project, Without and the reference's twins pick. -/
import Derived.Test.YtnfdhfclibdbmaaPx0
import Derived.Test.YtnfdhfclibdbmaaPx6
import Derived.Test.YtnfdhfclibdbmaaPx7
import Derived.Test.YtnfdhfclibdbmaaFtV
namespace Go.Proofs.Ytnfdhfclibdbmaa.Ft
open Go
set_option linter.unusedVariables false
set_option linter.unusedSimpArgs false
open Go.RowKit Go.Proofs.Ytnfdhfclibdbmaa.P Go.Proofs.YtnfdhfclibdbmaaW.PrintWords Go.Proofs.YtnfdhfclibdbmaaW.PrintLast

def pick (P : Key × Key → Bool) (l : List S33) : List S33 := l.filter (fun x => P (im x))
theorem ims_pick (P : Key × Key → Bool) (l : List S33) : ims (pick P l) = (ims l).filter P := by
  induction l with
  | nil => rfl
  | cons x l ih =>
    simp only [pick, ims, List.filter_cons, List.map_cons] at ih ⊢
    cases h : P (im x) with
    | true => simp only [if_true, List.map_cons]; rw [ih]
    | false => simp only [Bool.false_eq_true, if_false]; exact ih
theorem asc_filter {P : Key × Key → Bool} : ∀ {l : Rec}, Asc l → Asc (l.filter P)
  | [], _ => trivial
  | x :: l, h => by
    rw [List.filter_cons]
    by_cases hp : P x = true
    · rw [if_pos hp]
      exact ⟨fun y hy => h.1 y (List.mem_filter.1 hy).1, asc_filter h.2⟩
    · rw [if_neg hp]; exact asc_filter h.2
theorem get_filter {P : Key × Key → Bool} {k : Key} : ∀ {l : Rec}, Asc l → get (l.filter P) k = (get l k).filter (fun v => P (k, v))
  | [], _ => rfl
  | x :: l, h => by
    have ih := get_filter (P := P) (k := k) h.2
    rw [List.filter_cons]
    by_cases e : x.1 = k
    · have hn : get l k = none := by rw [← e]; exact get_lt h.1
      rw [get, if_pos e]
      by_cases hp : P x = true
      · rw [if_pos hp, get, if_pos e]
        have : P (k, x.2) = true := by rw [← e]; exact hp
        rw [Option.filter_some, this]
        rfl
      · rw [if_neg hp, ih, hn]
        have : P (k, x.2) = false := by rw [← e]; simpa using hp
        rw [Option.filter_none, Option.filter_some, this]
        rfl
    · rw [get, if_neg e, ← ih]
      by_cases hp : P x = true
      · rw [if_pos hp, get, if_neg e]
      · rw [if_neg hp]
theorem filt_ev {keep : Nat → S33 → Option Bool} {P : Key × Key → Bool} : ∀ l : List S33, (∀ x, Ev (fun z => keep z x) (P (im x))) → Ev (fun z => feature_filt (keep z) l) (pick P l)
  | [], _ => Ev.now _
  | x :: l, h => by
    refine Ev.bind (h x) (Ev.bind (filt_ev l h) ?_)
    have : pick P (x :: l) = if P (im x) = true then x :: pick P l else pick P l := by
      unfold pick
      rw [List.filter_cons]
    rw [this]
    exact Ev.now _
/-- Has a record this feature? -/
def has (l : Rec) (x : Key × Key) : Bool := decide (get l x.1 = some x.2)
theorem meet (a b : List S33) (hlen : a.length + b.length ≤ 4000000) : Ev (fun z => feature_Meet.f z a b) (pick (has (ims b)) a) := by
  have e : ∀ z, feature_Meet.f z a b = feature_filt (feature_Meet.keep z b) a := fun z => by unfold feature_Meet.f; rw [if_pos (by omega)]
  refine Ev.congr e (filt_ev a (fun x => ?_))
  obtain ⟨g, hg, mg⟩ := getv b (by omega) x.f0
  refine Ev.bind hg ?_
  have : has (ims b) (im x) = (g.2 && (g.1.toList == x.f1.toList)) := by
    rw [Bool.eq_iff_iff]
    simp only [has, decide_eq_true_eq, Bool.and_eq_true, beq_iff_eq]
    show get (ims b) x.f0.toList = some x.f1.toList ↔ _
    rcases mg with ⟨g1, g2⟩ | ⟨g1, g2, g3⟩
    · rw [g1, g2]; simp
    · rw [g1, g3]; simp
  rw [this]
  exact Ev.now _
theorem hasv (l : List S33) (hlen : l.length ≤ 4000000000) (fn fv : ByteArray) : Ev (fun z => pentaglotref02_Has.f z l fn fv) (has (ims l) (fn.toList, fv.toList)) := by
  obtain ⟨v, hv, hF⟩ := index l hlen fn
  refine Ev.bind hv ?_
  rcases hF with ⟨rfl, hg⟩ | ⟨h0, h1, hg⟩
  · have : has (ims l) (fn.toList, fv.toList) = false := by
      rw [Bool.eq_false_iff]
      intro h
      have h := of_decide_eq_true h
      rw [hg] at h
      cases h
    rw [this]
    refine Ev.congr (fun z => ?_) (Ev.now false)
    rw [if_neg (by decide)]
  · have : has (ims l) (fn.toList, fv.toList) = ((rd_T33 l v).f1.toList == fv.toList) := by
      rw [Bool.eq_iff_iff]
      simp only [has, decide_eq_true_eq, beq_iff_eq]
      rw [hg]
      simp
    rw [this]
    refine Ev.congr (fun z => ?_) (Ev.now _)
    rw [if_pos h0, if_pos h0, if_pos h1]
theorem rmeet_loop (a b : List S33) (hlen : a.length + b.length ≤ 4000000) : ∀ (A : List S33) (i : Nat) (out : List S33), a.drop i = A → i ≤ a.length → out.length ≤ i → Ev (fun z => pentaglotref02_Meet.l0 z a b out (i : Int)) (out ++ pick (has (ims b)) A) := by
  intro A
  induction A with
  | nil =>
    intro i out h hi ho
    have := rest_nil hi h
    refine Ev.step (f := fun _ => some out) (fun z => ?_) ?_
    · simp only [pentaglotref02_Meet.l0]
      rw [if_neg (by omega)]
    · simpa [pick] using Ev.now out
  | cons x A ih =>
    intro i out h hi' ho
    obtain ⟨hi, hx, h'⟩ := rest h
    have hb := hasv b (by omega) x.f0 x.f1
    have e2 : wrap64 ((i : Int) + 1) = ((i + 1 : Nat) : Int) := by rw [w64 (by omega) (by omega)]; omega
    refine Ev.step (f := fun z => (pentaglotref02_Has.f z b x.f0 x.f1).bind fun t281 => (if t281 = true then (pentaglotref02_Meet.l0 z a b (out ++ [x]) ((i + 1 : Nat) : Int)) else (pentaglotref02_Meet.l0 z a b out ((i + 1 : Nat) : Int)))) (fun z => ?_) (Ev.bind hb ?_)
    · simp only [pentaglotref02_Meet.l0]
      rw [if_pos (by omega), if_pos (by omega), hx, e2, if_pos (by omega)]
    · have ep : pick (has (ims b)) (x :: A) = if has (ims b) (x.f0.toList, x.f1.toList) = true then x :: pick (has (ims b)) A else pick (has (ims b)) A := by
        unfold pick
        rw [List.filter_cons]
        rfl
      rw [ep]
      by_cases hp : has (ims b) (x.f0.toList, x.f1.toList) = true
      · simp only [if_pos hp]
        have := ih (i + 1) (out ++ [x]) h' (by omega) (by simp; omega)
        simpa using this
      · simp only [if_neg hp]
        exact ih (i + 1) out h' (by omega) (by omega)
theorem rmeet (a b : List S33) (hlen : a.length + b.length ≤ 4000000) : Ev (fun z => pentaglotref02_Meet.f z a b) (pick (has (ims b)) a) := by
  have := rmeet_loop a b hlen a 0 [] rfl (Nat.zero_le _) (Nat.le_refl _)
  rw [List.nil_append] at this
  exact this
/-- Is a name in a list? -/
def inl (ns : List ByteArray) (k : Key) : Bool := decide (k ∈ ns.map (·.toList))
theorem restB {l t : List ByteArray} {x : ByteArray} {i : Nat} (h : l.drop i = x :: t) : i < l.length ∧ rdOf ByteArray.empty l (i : Int) = x ∧ l.drop (i + 1) = t := by
  have hi : i < l.length := by
    rcases Nat.lt_or_ge i l.length with h' | h'
    · exact h'
    · rw [List.drop_of_length_le h'] at h; cases h
  rw [List.drop_eq_getElem_cons hi] at h
  injection h with h1 h2
  refine ⟨hi, ?_, h2⟩
  unfold rdOf
  rw [Int.toNat_natCast, List.getD_eq_getElem?_getD, List.getElem?_eq_getElem hi]
  exact h1
theorem restB_nil {l : List ByteArray} {i : Nat} (hi : i ≤ l.length) (h : l.drop i = []) : i = l.length := by
  have := List.drop_eq_nil_iff.1 h
  omega
theorem rin_loop (ns : List ByteArray) (hlen : ns.length ≤ 4000000000) (n : ByteArray) : ∀ (R : List ByteArray) (i : Nat), ns.drop i = R → i ≤ ns.length → Ev (fun z => pentaglotref02_In.l0 z ns n (i : Int)) (inl R n.toList) := by
  intro R
  induction R with
  | nil =>
    intro i h hi
    have := restB_nil hi h
    refine Ev.step (f := fun _ => some false) (fun z => ?_) (Ev.now _)
    simp only [pentaglotref02_In.l0]
    rw [if_neg (by omega)]
  | cons x R ih =>
    intro i h hi'
    obtain ⟨hi, hx, h'⟩ := restB h
    by_cases e : x.toList = n.toList
    · have : inl (x :: R) n.toList = true := by simp [inl, e]
      rw [this]
      refine Ev.step (f := fun _ => some true) (fun z => ?_) (Ev.now _)
      simp only [pentaglotref02_In.l0]
      rw [if_pos (by omega), if_pos (by omega), hx, if_pos e]
    · have : inl (x :: R) n.toList = inl R n.toList := by
        unfold inl
        rw [Bool.eq_iff_iff]
        simp [Ne.symm e]
      rw [this]
      refine Ev.step (fun z => ?_) (ih (i + 1) h' (by omega))
      simp only [pentaglotref02_In.l0]
      rw [if_pos (by omega), if_pos (by omega), hx, if_neg e, w64 (by omega) (by omega)]
      rfl
theorem rin (ns : List ByteArray) (hlen : ns.length ≤ 4000000000) (n : ByteArray) : Ev (fun z => pentaglotref02_In.f z ns n) (inl ns n.toList) := rin_loop ns hlen n ns 0 rfl (Nat.zero_le _)
theorem sidx_loop (ns : List ByteArray) (hlen : ns.length ≤ 4000000000) (n : ByteArray) : ∀ (R : List ByteArray) (i : Nat), ns.drop i = R → i ≤ ns.length → ∃ v, Ev (fun z => slices_Index_string_string.l0 z ns n (ns.length : Int) (i : Int)) v ∧ decide (v ≥ 0) = inl R n.toList := by
  intro R
  induction R with
  | nil =>
    intro i h hi
    have := restB_nil hi h
    refine ⟨-1, Ev.step (f := fun _ => some (-1)) (fun z => ?_) (Ev.now _), by simp [inl]⟩
    simp only [slices_Index_string_string.l0]
    rw [if_neg (by omega)]
  | cons x R ih =>
    intro i h hi'
    obtain ⟨hi, hx, h'⟩ := restB h
    by_cases e : x.toList = n.toList
    · refine ⟨(i : Int), Ev.step (f := fun _ => some (i : Int)) (fun z => ?_) (Ev.now _), ?_⟩
      · simp only [slices_Index_string_string.l0]
        rw [if_pos (by omega), if_pos (by omega), if_pos (by omega), hx, if_pos e.symm]
      · rw [decide_eq_true (by omega)]; simp [inl, e]
    · obtain ⟨v, hv, hm⟩ := ih (i + 1) h' (by omega)
      refine ⟨v, Ev.step (fun z => ?_) hv, ?_⟩
      · simp only [slices_Index_string_string.l0]
        rw [if_pos (by omega), if_pos (by omega), if_pos (by omega), hx, if_neg (Ne.symm e), w64 (by omega) (by omega)]
        rfl
      · rw [hm]
        unfold inl
        rw [Bool.eq_iff_iff]
        simp [Ne.symm e]
theorem contains (ns : List ByteArray) (hlen : ns.length ≤ 4000000000) (n : ByteArray) : Ev (fun z => slices_Contains_string_string.f z ns n) (inl ns n.toList) := by
  obtain ⟨v, hv, hm⟩ := sidx_loop ns hlen n ns 0 rfl (Nat.zero_le _)
  refine Ev.bind hv ?_
  rw [hm]
  exact Ev.now _
theorem project (r : List S33) (ns : List ByteArray) (h1 : r.length ≤ 4000000) (h2 : ns.length ≤ 4000000) : Ev (fun z => feature_Project.f z r ns) (pick (fun x => inl ns x.1) r) := by
  have e : ∀ z, feature_Project.f z r ns = feature_filt (feature_Project.keep z ns) r := fun z => by unfold feature_Project.f; rw [if_pos (by omega)]
  exact Ev.congr e (filt_ev r (fun x => Ev.bind (contains ns (by omega) x.f0) (Ev.now _)))
theorem without (r : List S33) (ns : List ByteArray) (h1 : r.length ≤ 4000000) (h2 : ns.length ≤ 4000000) : Ev (fun z => feature_Without.f z r ns) (pick (fun x => !inl ns x.1) r) := by
  have e : ∀ z, feature_Without.f z r ns = feature_filt (feature_Without.keep z ns) r := fun z => by unfold feature_Without.f; rw [if_pos (by omega)]
  exact Ev.congr e (filt_ev r (fun x => Ev.bind (contains ns (by omega) x.f0) (Ev.now _)))
theorem select_loop (a : List S33) (ns : List ByteArray) (q : Bool) (hlen : a.length ≤ 4000000) (h2 : ns.length ≤ 4000000) : ∀ (A : List S33) (i : Nat) (out : List S33), a.drop i = A → i ≤ a.length → out.length ≤ i → Ev (fun z => pentaglotref02_Select.l0 z a ns q out (i : Int)) (out ++ pick (fun x => inl ns x.1 == q) A) := by
  intro A
  induction A with
  | nil =>
    intro i out h hi ho
    have := rest_nil hi h
    refine Ev.step (f := fun _ => some out) (fun z => ?_) ?_
    · simp only [pentaglotref02_Select.l0]
      rw [if_neg (by omega)]
    · simpa [pick] using Ev.now out
  | cons x A ih =>
    intro i out h hi' ho
    obtain ⟨hi, hx, h'⟩ := rest h
    have hb := rin ns (by omega) x.f0
    have e2 : wrap64 ((i : Int) + 1) = ((i + 1 : Nat) : Int) := by rw [w64 (by omega) (by omega)]; omega
    refine Ev.step (f := fun z => (pentaglotref02_In.f z ns x.f0).bind fun t281 => (if (t281 == q) = true then (pentaglotref02_Select.l0 z a ns q (out ++ [x]) ((i + 1 : Nat) : Int)) else (pentaglotref02_Select.l0 z a ns q out ((i + 1 : Nat) : Int)))) (fun z => ?_) (Ev.bind hb ?_)
    · simp only [pentaglotref02_Select.l0]
      rw [if_pos (by omega), if_pos (by omega), hx, e2, if_pos (by omega)]
    · have ep : pick (fun x => inl ns x.1 == q) (x :: A) = if (inl ns x.f0.toList == q) = true then x :: pick (fun x => inl ns x.1 == q) A else pick (fun x => inl ns x.1 == q) A := by
        unfold pick
        rw [List.filter_cons]
        rfl
      rw [ep]
      by_cases hp : (inl ns x.f0.toList == q) = true
      · simp only [if_pos hp]
        have := ih (i + 1) (out ++ [x]) h' (by omega) (by simp; omega)
        simpa using this
      · simp only [if_neg hp]
        exact ih (i + 1) out h' (by omega) (by omega)
theorem select (a : List S33) (ns : List ByteArray) (q : Bool) (hlen : a.length ≤ 4000000) (h2 : ns.length ≤ 4000000) : Ev (fun z => pentaglotref02_Select.f z a ns q) (pick (fun x => inl ns x.1 == q) a) := by
  have := select_loop a ns q hlen h2 a 0 [] rfl (Nat.zero_le _) (Nat.le_refl _)
  rw [List.nil_append] at this
  exact this
theorem pick_length (P : Key × Key → Bool) (l : List S33) : (pick P l).length ≤ l.length := List.length_filter_le _ _
theorem len_bulkB : ∀ l : List ByteArray, l.length ≤ (l.map (fun s => s.size + 1)).sum
  | [] => by simp
  | x :: l => by have := len_bulkB l; simp; omega
end Go.Proofs.Ytnfdhfclibdbmaa.Ft
