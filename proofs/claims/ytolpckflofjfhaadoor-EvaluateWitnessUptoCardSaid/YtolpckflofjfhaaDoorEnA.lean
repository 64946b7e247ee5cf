import Derived.Test.YtolpckflofjfhaaDoorPx0
import Derived.Test.YtolpckflofjfhaaDoorPx1
import Derived.Test.YtolpckflofjfhaaDoorPx4
import Derived.Test.YtolpckflofjfhaaDoorPx5
import Derived.Test.YtolpckflofjfhaaDoorPx10
import Derived.Test.YtolpckflofjfhaaDoorPx12
import Derived.Test.YtolpckflofjfhaaDoorPx17
import Derived.Lib.Strings
namespace Go.Proofs.YtolpckflofjfhaaDoor.En
set_option linter.unusedVariables false
set_option linter.unusedSimpArgs false
open Go.RowKit Go.Proofs.YtolpckflofjfhaaDoor.P Go.Proofs.YtolpckflofjfhaaDoorW.PrintWords Go.Proofs.YtolpckflofjfhaaDoorW.PrintLast
theorem w64 {x : Int} (h0 : -9223372036854775808 ≤ x) (h1 : x ≤ 9223372036854775807) : wrap64 x = x := by unfold wrap64; omega
theorem rdJ {l : List Int} {j : Nat} (h : j < l.length) : rd l (j : Int) = l[j] := by
  unfold rd
  rw [Int.toNat_natCast, List.getD_eq_getElem?_getD, List.getElem?_eq_getElem h]
  rfl
theorem rd73 {l : List S73} {j : Nat} (h : j < l.length) : rd_T73 l (j : Int) = l[j] := by
  unfold rd_T73
  rw [Int.toNat_natCast, List.getD_eq_getElem?_getD, List.getElem?_eq_getElem h]
  rfl
theorem str_eq (a b : ByteArray) : a.toList = b.toList ↔ a.data = b.data := by
  rw [Lib.toList_data, Lib.toList_data]
  exact ⟨fun h => Array.toList_inj.1 h, fun h => by rw [h]⟩
def properB (ds : List S73) (ts : List Int) (id : Int) : Bool := tmB (-1) ts && (dmB [] ds && (id == 1 || id == 2))
theorem proper_f {ds : List S73} {ts : List Int} {id : Int} (h0 : ∀ d ∈ ds, wf73 d) (h1 : ds.length < 4398046511104) (h2 : ts.length < 4398046511104) : evaluate_proper.f ds ts id = some (properB ds ts id) := by
  unfold evaluate_proper.f
  rw [if_pos ⟨List.all_eq_true.2 (fun d hd => decide_eq_true (h0 d hd).1), h1, h2⟩]
  rfl
def freshB (ds : List S73) (i j : Nat) (s : ByteArray) : Bool := !(((ds.take i).drop j).any fun u => u.f0.data == s.data)
theorem ev_l1 (ds : List S73) (ts : List Int) (id : Int) (hl : ds.length < 4398046511104) : ∀ m i, ds.length - i = m → i ≤ ds.length → Ev (fun k => pentaglotref26_Proper.l1 k (i : Int) ds ts id) (dmB (((ds.take i).map S73.f0).reverse) (ds.drop i) && (id == 1 || id == 2))
  | 0, i, hm, hi => by
    have he : i = ds.length := by omega
    subst he
    refine Ev.step (f := fun _ => some (id == 1 || id == 2)) (fun k => ?_) ?_
    · rw [pentaglotref26_Proper.l1, if_neg (by omega)]
      by_cases h : id = 1
      · rw [if_pos h, h]; rfl
      · rw [if_neg h, (beq_eq_false_iff_ne.mpr h : (id == 1) = false)]; rfl
    · rw [List.drop_length, dmB, Bool.true_and]
      exact Ev.now _
  | m + 1, i, hm, hi => by
    have hi' : i < ds.length := by omega
    have ih := ev_l1 ds ts id hl m (i + 1) (by omega) (by omega)
    rw [List.drop_eq_getElem_cons hi', dmB]
    have inner : ∀ n j, i - j = n → j ≤ i → Ev (fun k => pentaglotref26_Proper.l2 k (i : Int) (j : Int) ds ts id) (freshB ds i j ds[i].f0 && (dmB (((ds.take (i + 1)).map S73.f0).reverse) (ds.drop (i + 1)) && (id == 1 || id == 2))) := by
      intro n
      induction n with
      | zero =>
        intro j hj hji
        obtain rfl : j = i := by omega
        refine Ev.step (f := fun k => pentaglotref26_Proper.l1 k (((j + 1 : Nat)) : Int) ds ts id) (fun k => ?_) ?_
        · rw [pentaglotref26_Proper.l2, if_neg (by omega), w64 (by omega) (by omega)]
          rfl
        · have : freshB ds j j ds[j].f0 = true := by
            unfold freshB
            rw [List.drop_eq_nil_of_le (by simp; omega)]
            rfl
          rw [this, Bool.true_and]
          exact ih
      | succ n ihn =>
        intro j hj hji
        have hj' : j < i := by omega
        have hjl : j < ds.length := by omega
        have htl : j < (ds.take i).length := by simp; omega
        have hfr : freshB ds i j ds[i].f0 = (!(ds[j].f0.data == ds[i].f0.data) && freshB ds i (j + 1) ds[i].f0) := by
          unfold freshB
          rw [List.drop_eq_getElem_cons htl, List.any_cons, Bool.not_or, List.getElem_take]
        by_cases hs : ds[i].f0.toList = ds[j].f0.toList
        · refine Ev.step (f := fun _ => some false) (fun k => ?_) ?_
          · rw [pentaglotref26_Proper.l2, if_pos (by omega), if_pos (by omega), if_pos (by omega), if_pos (by omega), if_pos (by omega), rd73 hi', rd73 hjl, if_pos hs]
          · have : (ds[j].f0.data == ds[i].f0.data) = true := beq_iff_eq.mpr ((str_eq _ _).1 hs).symm
            rw [hfr, this]
            exact Ev.now _
        · refine Ev.step (f := fun k => pentaglotref26_Proper.l2 k (i : Int) ((j + 1 : Nat) : Int) ds ts id) (fun k => ?_) ?_
          · rw [pentaglotref26_Proper.l2, if_pos (by omega), if_pos (by omega), if_pos (by omega), if_pos (by omega), if_pos (by omega), rd73 hi', rd73 hjl, if_neg hs, w64 (by omega) (by omega)]
            rfl
          · have : (ds[j].f0.data == ds[i].f0.data) = false := beq_eq_false_iff_ne.mpr (fun h => hs ((str_eq _ _).2 h.symm))
            rw [hfr, this]
            exact ihn (j + 1) (by omega) (by omega)
    have h0 := inner i 0 (by omega) (Nat.zero_le _)
    have hf0 : freshB ds i 0 ds[i].f0 = !((((ds.take i).map S73.f0).reverse).any fun u => u.data == ds[i].f0.data) := by
      unfold freshB
      rw [List.drop_zero, List.any_reverse, List.any_map]
      rfl
    have hrev : ((ds.take (i + 1)).map S73.f0).reverse = ds[i].f0 :: ((ds.take i).map S73.f0).reverse := by
      rw [List.take_succ_eq_append_getElem hi', List.map_append, List.reverse_append]
      rfl
    rw [hf0, hrev] at h0
    refine Ev.step (f := fun k => pentaglotref26_Proper.l2 k (i : Int) ((0 : Nat) : Int) ds ts id) (fun k => ?_) ?_
    · rw [pentaglotref26_Proper.l1, if_pos (by omega)]
      rfl
    · rw [Bool.and_assoc]
      exact h0
theorem ev_proper (ds : List S73) (ts : List Int) (id : Int) (hl : ds.length < 4398046511104) (ht : ts.length < 4398046511104) : Ev (fun k => pentaglotref26_Proper.f k ds ts id) (properB ds ts id) := by
  have h1 := ev_l1 ds ts id hl ds.length 0 (by omega) (Nat.zero_le _)
  rw [List.take_zero, List.map_nil, List.reverse_nil, List.drop_zero] at h1
  have loop : ∀ m i, ts.length - i = m → i ≤ ts.length → Ev (fun k => pentaglotref26_Proper.l0 k (i : Int) ds ts id) (tmB (if (i : Int) = 0 then -1 else rd ts ((i : Int) - 1)) (ts.drop i) && (dmB [] ds && (id == 1 || id == 2))) := by
    intro m
    induction m with
    | zero =>
      intro i hm hi
      obtain rfl : i = ts.length := by omega
      refine Ev.step (f := fun k => pentaglotref26_Proper.l1 k ((0 : Nat) : Int) ds ts id) (fun k => ?_) ?_
      · rw [pentaglotref26_Proper.l0, if_neg (by omega)]; rfl
      · rw [List.drop_length, tmB, Bool.true_and]
        exact h1
    | succ m ih =>
      intro i hm hi
      have hi' : i < ts.length := by omega
      have ihn := ih (i + 1) (by omega) (by omega)
      rw [List.drop_eq_getElem_cons hi', tmB]
      rw [if_neg (by omega), show (((i + 1 : Nat) : Int) - 1) = (i : Int) by omega, rdJ hi'] at ihn
      by_cases c1 : ts[i] < 0
      · refine Ev.step (f := fun _ => some false) (fun k => ?_) ?_
        · rw [pentaglotref26_Proper.l0, if_pos (by omega), if_pos (by omega), rdJ hi', if_pos c1]
        · rw [decide_eq_true c1]
          exact Ev.now _
      · by_cases c2 : 1439999999 < ts[i]
        · refine Ev.step (f := fun _ => some false) (fun k => ?_) ?_
          · rw [pentaglotref26_Proper.l0, if_pos (by omega), if_pos (by omega), rdJ hi', if_neg c1, if_pos c2]
          · rw [decide_eq_true c2, decide_eq_false c1]
            exact Ev.now _
        · rw [decide_eq_false c1, decide_eq_false c2]
          by_cases hz : i = 0
          · subst hz
            refine Ev.step (f := fun k => pentaglotref26_Proper.l0 k ((0 + 1 : Nat) : Int) ds ts id) (fun k => ?_) ?_
            · rw [pentaglotref26_Proper.l0, if_pos (by omega), if_pos (by omega), rdJ hi', if_neg c1, if_neg c2, if_neg (by omega), w64 (by omega) (by omega)]
              rfl
            · have : decide (ts[0] ≤ if ((0 : Nat) : Int) = 0 then -1 else rd ts (((0 : Nat) : Int) - 1)) = false := decide_eq_false (by rw [if_pos (by omega)]; omega)
              rw [this]
              exact ihn
          · have hpi : i - 1 < ts.length := by omega
            have hc : ((i : Int) - 1) = ((i - 1 : Nat) : Int) := by omega
            rw [if_neg (by omega), hc, rdJ hpi]
            by_cases c3 : ts[i] ≤ ts[i - 1]
            · refine Ev.step (f := fun _ => some false) (fun k => ?_) ?_
              · rw [pentaglotref26_Proper.l0, if_pos (by omega), if_pos (by omega), rdJ hi', if_neg c1, if_neg c2, if_pos (by omega), w64 (by omega) (by omega), if_pos (by omega), if_pos (by omega), hc, rdJ hpi, if_pos c3]
              · rw [decide_eq_true c3]
                exact Ev.now _
            · refine Ev.step (f := fun k => pentaglotref26_Proper.l0 k ((i + 1 : Nat) : Int) ds ts id) (fun k => ?_) ?_
              · rw [pentaglotref26_Proper.l0, if_pos (by omega), if_pos (by omega), rdJ hi', if_neg c1, if_neg c2, if_pos (by omega), w64 (by omega) (by omega), if_pos (by omega), if_pos (by omega), hc, rdJ hpi, if_neg c3, w64 (by omega) (by omega)]
                rfl
              · rw [decide_eq_false c3]
                exact ihn
  have h := loop ts.length 0 (by omega) (Nat.zero_le _)
  rw [List.drop_zero, if_pos (by omega)] at h
  exact h
theorem tm_mem : ∀ {p : Int} {ts : List Int}, tmB p ts = true → ∀ t ∈ ts, 0 ≤ t ∧ t ≤ 1439999999 ∧ p < t
  | p, [], _, t, ht => by simp at ht
  | p, x :: l, h, t, ht => by
    simp only [tmB, Bool.and_eq_true, Bool.not_eq_true', decide_eq_false_iff_not] at h
    obtain ⟨h0, h1, h2, h3⟩ := h
    rcases List.mem_cons.1 ht with rfl | ht
    · omega
    · have := tm_mem h3 t ht
      omega
theorem tm_lt : ∀ {p : Int} {ts : List Int}, tmB p ts = true → ts.Pairwise (· < ·)
  | p, [], _ => List.Pairwise.nil
  | p, x :: l, h => by
    simp only [tmB, Bool.and_eq_true, Bool.not_eq_true', decide_eq_false_iff_not] at h
    exact List.Pairwise.cons (fun t ht => (tm_mem h.2.2.2 t ht).2.2) (tm_lt h.2.2.2)
theorem asc {ts : List Int} (h : ts.Pairwise (· < ·)) {i j : Nat} (hij : i < j) (hj : j < ts.length) : ts[i] < ts[j] := List.pairwise_iff_getElem.1 h i j (by omega) hj hij
def posN (ts : List Int) (x : Int) : Option Nat := ts.findIdx? (· == x)
theorem pos_some {ts : List Int} {x : Int} {i : Nat} (h : posN ts x = some i) : ∃ hi : i < ts.length, ts[i] = x := by
  obtain ⟨hi, h1, _⟩ := List.findIdx?_eq_some_iff_getElem.1 h
  exact ⟨hi, by simpa using h1⟩
theorem ev_search {ts : List Int} (ha : ts.Pairwise (· < ·)) (hl : ts.length < 4398046511104) (x : Int) : ∃ q, Ev (fun k => slices_BinarySearch_int_int.f k ts x) q ∧ ((posN ts x = some q.1.toNat ∧ 0 ≤ q.1 ∧ q.2 = true) ∨ (posN ts x = none ∧ q.2 = false)) := by
  have loop : ∀ m (lo hi : Nat), hi - lo = m → lo ≤ hi → hi ≤ ts.length → (∀ j, (h : j < lo) → ∀ hl : j < ts.length, ts[j] < x) → (∀ j, hi ≤ j → ∀ hl : j < ts.length, x ≤ ts[j]) →
      ∃ q, Ev (fun k => slices_BinarySearch_int_int.l0 k ts x (ts.length : Int) (lo : Int) (hi : Int)) q ∧ ((posN ts x = some q.1.toNat ∧ 0 ≤ q.1 ∧ q.2 = true) ∨ (posN ts x = none ∧ q.2 = false)) := by
    intro m
    induction m using Nat.strongRecOn with
    | ind m ih =>
      intro lo hi hm hle hhi hlow hhigh
      by_cases hlt : lo < hi
      · have hmid : wrap64 (IntKind.u64.wrap (wrap64 ((lo : Int) + (hi : Int))) / 2) = (((lo + hi) / 2 : Nat) : Int) := by
          rw [w64 (x := (lo : Int) + (hi : Int)) (by omega) (by omega)]
          have : IntKind.u64.wrap ((lo : Int) + (hi : Int)) = (lo : Int) + (hi : Int) := by
            show ((lo : Int) + (hi : Int)) % 18446744073709551616 = _
            omega
          rw [this, w64 (by omega) (by omega)]
          omega
        have hml : (lo + hi) / 2 < ts.length := by omega
        by_cases c : ts[(lo + hi) / 2] < x
        · obtain ⟨q, hq, hr⟩ := ih (hi - ((lo + hi) / 2 + 1)) (by omega) ((lo + hi) / 2 + 1) hi rfl (by omega) hhi (fun j hj hl' => by
            rcases Nat.lt_or_ge j ((lo + hi) / 2) with h | h
            · exact Int.lt_trans (asc ha h hml) c
            · obtain rfl : j = (lo + hi) / 2 := by omega
              exact c) hhigh
          refine ⟨q, Ev.step (f := fun k => slices_BinarySearch_int_int.l0 k ts x (ts.length : Int) (((lo + hi) / 2 + 1 : Nat) : Int) (hi : Int)) (fun k => ?_) hq, hr⟩
          rw [slices_BinarySearch_int_int.l0, if_pos (by omega), hmid, if_pos (by omega), if_pos (by omega), rdJ hml]
          simp only [cmp_Less_int.f, cmp_isNaN_int.f, Option.bind_some, bne_self_eq_false, Bool.false_eq_true, if_false, decide_eq_true c, if_true]
          rw [w64 (by omega) (by omega)]
          rfl
        · obtain ⟨q, hq, hr⟩ := ih ((lo + hi) / 2 - lo) (by omega) lo ((lo + hi) / 2) rfl (by omega) (by omega) hlow (fun j hj hl' => by
            rcases Nat.lt_or_ge ((lo + hi) / 2) j with h | h
            · have := asc ha h hl'
              omega
            · obtain rfl : j = (lo + hi) / 2 := by omega
              omega)
          refine ⟨q, Ev.step (f := fun k => slices_BinarySearch_int_int.l0 k ts x (ts.length : Int) (lo : Int) (((lo + hi) / 2 : Nat) : Int)) (fun k => ?_) hq, hr⟩
          rw [slices_BinarySearch_int_int.l0, if_pos (by omega), hmid, if_pos (by omega), if_pos (by omega), rdJ hml]
          simp only [cmp_Less_int.f, cmp_isNaN_int.f, Option.bind_some, bne_self_eq_false, Bool.false_eq_true, if_false, decide_eq_false c]
      · obtain rfl : lo = hi := by omega
        by_cases hn : lo < ts.length
        · by_cases he : ts[lo] = x
          · refine ⟨((lo : Int), true), Ev.step (f := fun _ => some ((lo : Int), true)) (fun k => ?_) (Ev.now _), .inl ⟨?_, by omega, rfl⟩⟩
            · rw [slices_BinarySearch_int_int.l0, if_neg (by omega), if_pos (by omega), if_pos (by omega), if_pos (by omega), rdJ hn, if_pos he]
            · rw [Int.toNat_natCast]
              refine List.findIdx?_eq_some_iff_getElem.2 ⟨hn, by simpa using he, fun j hj => ?_⟩
              have := hlow j hj (by omega)
              simp
              omega
          · refine ⟨((lo : Int), false), Ev.step (f := fun _ => some ((lo : Int), false)) (fun k => ?_) (Ev.now _), .inr ⟨?_, rfl⟩⟩
            · rw [slices_BinarySearch_int_int.l0, if_neg (by omega), if_pos (by omega), if_pos (by omega), if_pos (by omega), rdJ hn, if_neg he]
              simp [slices_isNaN_int.f]
            · refine List.findIdx?_eq_none_iff.2 (fun y hy => ?_)
              obtain ⟨j, hj, rfl⟩ := List.getElem_of_mem hy
              rw [beq_eq_false_iff_ne]
              rcases Nat.lt_trichotomy j lo with h | rfl | h
              · have := hlow j h hj; omega
              · exact he
              · have h1 := asc ha h hj
                have h2 := hhigh lo (Nat.le_refl _) hn
                omega
        · refine ⟨((lo : Int), false), Ev.step (f := fun _ => some ((lo : Int), false)) (fun k => ?_) (Ev.now _), .inr ⟨?_, rfl⟩⟩
          · rw [slices_BinarySearch_int_int.l0, if_neg (by omega), if_neg (by omega)]
          · refine List.findIdx?_eq_none_iff.2 (fun y hy => ?_)
            obtain ⟨j, hj, rfl⟩ := List.getElem_of_mem hy
            rw [beq_eq_false_iff_ne]
            have := hlow j (by omega) hj
            omega
  exact loop ts.length 0 ts.length (by omega) (Nat.zero_le _) (Nat.le_refl _) (fun j h => absurd h (Nat.not_lt_zero _)) (fun j h hl => absurd hl (by omega))
theorem ev_place (ds : List S73) (ts : List Int) (id : Int) (hl : ts.length < 4398046511104) (x : Int) : Ev (fun k => pentaglotref26_place.f k ds ts id x) (match posN ts x with | some i => 2 * (i : Int) + 1 | none => -1) := by
  have loop : ∀ m i, ts.length - i = m → i ≤ ts.length → (∀ j, (hj : j < i) → ∀ hl : j < ts.length, ts[j] ≠ x) → Ev (fun k => pentaglotref26_place.l0 k x (i : Int) ds ts id) (match posN ts x with | some i => 2 * (i : Int) + 1 | none => -1) := by
    intro m
    induction m with
    | zero =>
      intro i hm hi hne
      obtain rfl : i = ts.length := by omega
      have hp : posN ts x = none := List.findIdx?_eq_none_iff.2 (fun y hy => by
        obtain ⟨j, hj, rfl⟩ := List.getElem_of_mem hy
        rw [beq_eq_false_iff_ne]
        exact hne j hj hj)
      rw [hp]
      exact Ev.step (f := fun _ => some (-1)) (fun k => by rw [pentaglotref26_place.l0, if_neg (by omega)]) (Ev.now _)
    | succ m ih =>
      intro i hm hi hne
      have hi' : i < ts.length := by omega
      by_cases he : ts[i] = x
      · have hp : posN ts x = some i := List.findIdx?_eq_some_iff_getElem.2 ⟨hi', by simpa using he, fun j hj => by simpa using hne j hj (by omega)⟩
        rw [hp]
        refine Ev.step (f := fun _ => some (2 * (i : Int) + 1)) (fun k => ?_) (Ev.now _)
        rw [pentaglotref26_place.l0, if_pos (by omega), if_pos (by omega), rdJ hi', if_pos he, w64 (x := 2 * (i : Int)) (by omega) (by omega), w64 (by omega) (by omega)]
      · refine Ev.step (f := fun k => pentaglotref26_place.l0 k x ((i + 1 : Nat) : Int) ds ts id) (fun k => ?_) (ih (i + 1) (by omega) (by omega) (fun j hj hl' => ?_))
        · rw [pentaglotref26_place.l0, if_pos (by omega), if_pos (by omega), rdJ hi', if_neg he, w64 (by omega) (by omega)]
          rfl
        · rcases Nat.lt_or_ge j i with h | h
          · exact hne j h hl'
          · obtain rfl : j = i := by omega
            exact he
  exact loop ts.length 0 (by omega) (Nat.zero_le _) (fun j h => absurd h (Nat.not_lt_zero _))
def endN (ts : List Int) (dflt : Int) (x : Int) : Option Int := if x = -1 then some dflt else (posN ts x).map (fun (i : Nat) => 2 * (i : Int) + 1)
theorem endN_bound {ts : List Int} {d x a : Int} (h : endN ts d x = some a) (hd : 0 ≤ d ∧ d ≤ 2 * (ts.length : Int) + 1) : 0 ≤ a ∧ a ≤ 2 * (ts.length : Int) + 1 := by
  unfold endN at h
  split at h
  · injection h with h; omega
  · obtain ⟨i, hi, rfl⟩ := Option.map_eq_some_iff.1 h
    obtain ⟨hl, _⟩ := pos_some hi
    omega
def itv (ts : List Int) (f t : Int) : Int × Int × Bool :=
  match endN ts 0 f, endN ts (2 * (ts.length : Int) + 1) t with
  | some a, some b => (a, mx a b, true)
  | _, _ => (0, 0, false)
theorem ev_interval (ds : List S73) {ts : List Int} (id : Int) (ha : ts.Pairwise (· < ·)) (hl : ts.length < 4398046511104) (f t : Int) : Ev (fun k => evaluate_interval.f k ds ts id f t) (itv ts f t) := by
  have hw : wrap64 (wrap64 (2 * (ts.length : Int)) + 1) = 2 * (ts.length : Int) + 1 := by rw [w64 (x := 2 * (ts.length : Int)) (by omega) (by omega), w64 (by omega) (by omega)]
  have second : ∀ a : Int, endN ts 0 f = some a → Ev (fun k => evaluate_interval.j0 k t a (2 * (ts.length : Int) + 1) ds ts id) (itv ts f t) := by
    intro a hf
    unfold itv
    rw [hf]
    by_cases h1 : t = -1
    · refine Ev.step (f := fun _ => some (a, mx a (2 * (ts.length : Int) + 1), true)) (fun k => by rw [evaluate_interval.j0, if_pos h1]) ?_
      have : endN ts (2 * (ts.length : Int) + 1) t = some (2 * (ts.length : Int) + 1) := if_pos h1
      rw [this]
      exact Ev.now _
    · obtain ⟨q, hq, hr⟩ := ev_search ha hl t
      refine Ev.step (f := fun k => (slices_BinarySearch_int_int.f k ts t).bind fun bt => (if bt.2 = true then some (a, mx a (wrap64 (wrap64 (2 * bt.1) + 1)), true) else some (0, 0, false))) (fun k => by rw [evaluate_interval.j0, if_neg h1]) (Ev.bind hq ?_)
      rcases hr with ⟨hp, h0, h2⟩ | ⟨hp, h2⟩
      · obtain ⟨hlt, _⟩ := pos_some hp
        have : endN ts (2 * (ts.length : Int) + 1) t = some (2 * q.1 + 1) := by unfold endN; rw [if_neg h1, hp]; simp only [Option.map_some]; congr 1; omega
        rw [this]
        simp only [h2, if_true]
        rw [w64 (x := 2 * q.1) (by omega) (by omega), w64 (by omega) (by omega)]
        exact Ev.now _
      · have : endN ts (2 * (ts.length : Int) + 1) t = none := by unfold endN; rw [if_neg h1, hp]; rfl
        rw [this]
        simp only [h2, Bool.false_eq_true, if_false]
        exact Ev.now _
  unfold evaluate_interval.f
  rw [hw]
  by_cases h0 : f = -1
  · simp only [if_pos h0]
    exact second 0 (if_pos h0)
  · simp only [if_neg h0]
    obtain ⟨q, hq, hr⟩ := ev_search ha hl f
    refine Ev.bind hq ?_
    rcases hr with ⟨hp, hq0, h2⟩ | ⟨hp, h2⟩
    · obtain ⟨hlt, _⟩ := pos_some hp
      simp only [h2, if_true]
      rw [w64 (x := 2 * q.1) (by omega) (by omega), w64 (by omega) (by omega)]
      exact second _ (by unfold endN; rw [if_neg h0, hp]; simp only [Option.map_some]; congr 1; omega)
    · have : itv ts f t = (0, 0, false) := by unfold itv endN; rw [if_neg h0, hp]; rfl
      rw [this]
      simp only [h2, Bool.false_eq_true, if_false]
      exact Ev.now _
def fromN (a : Int) (n : Nat) : List Int := (List.range n).map fun (j : Nat) => a + (j : Int)
theorem fromN_succ (a : Int) (n : Nat) : a :: fromN (a + 1) n = fromN a (n + 1) := by
  unfold fromN
  rw [List.range_succ_eq_map, List.map_cons, List.map_map]
  congr 1
  · simp
  · refine List.map_congr_left (fun j _ => ?_)
    simp only [Function.comp]
    omega
theorem fromN_len (a : Int) (n : Nat) : (fromN a n).length = n := by simp [fromN]
theorem ev_interval_loop (b : Int) (hb : b ≤ 17592186044416) : ∀ n (out : List Int) (a : Int), (b - a).toNat = n → 0 ≤ a → (out.length : Int) ≤ a → Ev (fun k => pentaglotref26_Interval.l0 k b out a) (out ++ fromN a n, true)
  | 0, out, a, hn, ha, ho => Ev.step (f := fun _ => some (out, true)) (fun k => by rw [pentaglotref26_Interval.l0, if_neg (by omega)]) (by unfold fromN; rw [List.range_zero, List.map_nil, List.append_nil]; exact Ev.now _)
  | n + 1, out, a, hn, ha, ho => by
    refine Ev.step (f := fun k => pentaglotref26_Interval.l0 k b (out ++ [a]) (a + 1)) (fun k => ?_) ?_
    · rw [pentaglotref26_Interval.l0, if_pos (by omega), if_pos (by omega), w64 (by omega) (by omega)]
    · have := ev_interval_loop b hb n (out ++ [a]) (a + 1) (by omega) (by omega) (by simp; omega)
      rw [List.append_assoc, List.singleton_append, fromN_succ] at this
      exact this
def momL (ts : List Int) (f t : Int) : Option (List Int) :=
  match endN ts 0 f, endN ts (2 * (ts.length : Int) + 1) t with
  | some a, some b => some (fromN a (b - a).toNat)
  | _, _ => none
theorem ev_refInterval (ds : List S73) (ts : List Int) (id : Int) (hl : ts.length < 4398046511104) (f t : Int) : Ev (fun k => pentaglotref26_Interval.f k ds ts id f t) (match momL ts f t with | some l => (l, true) | none => ([], false)) := by
  have hw : wrap64 (wrap64 (2 * (ts.length : Int)) + 1) = 2 * (ts.length : Int) + 1 := by rw [w64 (x := 2 * (ts.length : Int)) (by omega) (by omega), w64 (by omega) (by omega)]
  have place : ∀ d x : Int, ¬ x = -1 → (match posN ts x with | some i => 2 * (i : Int) + 1 | none => -1) = (match endN ts d x with | some a => a | none => -1) := by
    intro d x hx
    unfold endN
    rw [if_neg hx]
    cases posN ts x <;> rfl
  have third : ∀ a b : Int, a ≤ 2 * (ts.length : Int) + 1 → b ≤ 2 * (ts.length : Int) + 1 → Ev (fun k => pentaglotref26_Interval.j1 k a b) (if a < 0 ∨ b < 0 then ([], false) else (fromN a (b - a).toNat, true)) := by
    intro a b ha hb
    by_cases h0 : a < 0
    · rw [if_pos (.inl h0)]
      exact Ev.step (f := fun k => pentaglotref26_Interval.j2 k a b true) (fun k => by rw [pentaglotref26_Interval.j1, if_pos h0]) (Ev.step (f := fun _ => some ([], false)) (fun k => by rw [pentaglotref26_Interval.j2, if_pos rfl]) (Ev.now _))
    · by_cases h1 : b < 0
      · rw [if_pos (.inr h1)]
        exact Ev.step (f := fun k => pentaglotref26_Interval.j2 k a b true) (fun k => by rw [pentaglotref26_Interval.j1, if_neg h0, decide_eq_true h1]) (Ev.step (f := fun _ => some ([], false)) (fun k => by rw [pentaglotref26_Interval.j2, if_pos rfl]) (Ev.now _))
      · rw [if_neg (by omega)]
        exact Ev.step (f := fun k => pentaglotref26_Interval.j2 k a b false) (fun k => by rw [pentaglotref26_Interval.j1, if_neg h0, decide_eq_false h1]) (Ev.step (f := fun k => pentaglotref26_Interval.l0 k b [] a) (fun k => by rw [pentaglotref26_Interval.j2, if_neg (by decide)]) (ev_interval_loop b (by omega) _ [] a rfl (by omega) (by simp; omega)))
  have fin : ∀ a b : Int, (match endN ts 0 f with | some a => a | none => -1) = a → (match endN ts (2 * (ts.length : Int) + 1) t with | some a => a | none => -1) = b → (if a < 0 ∨ b < 0 then (([] : List Int), false) else (fromN a (b - a).toNat, true)) = (match momL ts f t with | some l => (l, true) | none => ([], false)) := by
    intro a b ha hb
    unfold momL
    cases hf : endN ts 0 f with
    | none =>
      rw [hf] at ha
      subst ha
      rw [if_pos (.inl (by decide))]
    | some a' =>
      rw [hf] at ha
      subst ha
      have := endN_bound hf (by omega)
      cases ht : endN ts (2 * (ts.length : Int) + 1) t with
      | none =>
        rw [ht] at hb
        subst hb
        rw [if_pos (.inr (by decide))]
      | some b' =>
        rw [ht] at hb
        subst hb
        have := endN_bound ht (by omega)
        rw [if_neg (by dsimp only; omega)]
  have bnd : ∀ d x : Int, 0 ≤ d ∧ d ≤ 2 * (ts.length : Int) + 1 → (match endN ts d x with | some a => a | none => -1) ≤ 2 * (ts.length : Int) + 1 := by
    intro d x hd
    cases h : endN ts d x with
    | none => dsimp only; omega
    | some a => exact (endN_bound h hd).2
  have second : ∀ a : Int, (match endN ts 0 f with | some a => a | none => -1) = a → Ev (fun k => pentaglotref26_Interval.j0 k t a (2 * (ts.length : Int) + 1) ds ts id) (match momL ts f t with | some l => (l, true) | none => ([], false)) := by
    intro a ha
    have hab : a ≤ 2 * (ts.length : Int) + 1 := by rw [← ha]; exact bnd 0 f (by omega)
    by_cases h1 : t = -1
    · refine Ev.step (f := fun k => pentaglotref26_Interval.j1 k a (2 * (ts.length : Int) + 1)) (fun k => by rw [pentaglotref26_Interval.j0, if_pos h1]) ?_
      rw [← fin a (2 * (ts.length : Int) + 1) ha (by unfold endN; rw [if_pos h1])]
      exact third _ _ hab (Int.le_refl _)
    · refine Ev.step (f := fun k => (pentaglotref26_place.f k ds ts id t).bind fun b => pentaglotref26_Interval.j1 k a b) (fun k => by rw [pentaglotref26_Interval.j0, if_neg h1]) (Ev.bind (ev_place ds ts id hl t) ?_)
      rw [place (2 * (ts.length : Int) + 1) t h1, ← fin a _ ha rfl]
      exact third _ _ hab (bnd _ t (by omega))
  unfold pentaglotref26_Interval.f pentaglotref26_Last.f
  simp only [Option.bind_some, hw]
  by_cases h0 : f = -1
  · simp only [if_pos h0]
    exact second 0 (by unfold endN; rw [if_pos h0])
  · simp only [if_neg h0]
    refine Ev.bind (ev_place ds ts id hl f) ?_
    exact second _ (place 0 f h0).symm
theorem len_le {α : Type} (b : α → Nat) (hb : ∀ x, 1 ≤ b x) : ∀ l : List α, l.length ≤ (l.map b).sum
  | [] => by simp
  | x :: l => by
    have := len_le b hb l
    have := hb x
    simp only [List.length_cons, List.map_cons, List.sum_cons]
    omega
theorem bulk25_len (x : S25) : x.f0.length ≤ bulk25 x ∧ x.f1.length ≤ bulk25 x := by
  have h1 := len_le bulk73 (fun d => by unfold bulk73; omega) x.f0
  have h2 := len_le (fun _ : Int => 1) (fun _ => Nat.le_refl _) x.f1
  unfold bulk25
  omega
theorem bulk28_len (x : S28) : x.f0.f0.length ≤ bulk28 x ∧ x.f0.f1.length ≤ bulk28 x ∧ x.f1.length ≤ bulk28 x := by
  have h1 := bulk25_len x.f0
  have h2 := len_le bulk62 (fun d => by unfold bulk62; omega) x.f1
  unfold bulk28
  omega
end Go.Proofs.YtolpckflofjfhaaDoor.En
