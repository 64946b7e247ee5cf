/- Plain facts on trees: their sizes, what they count, which are well formed; that the functions that walk them come to an end. -/
import Derived.Test.YtfampmajmbediaaPx0
import Derived.Test.YtfampmajmbediaaPx18
import Derived.Test.YtfampmajmbediaaPx19
import Derived.Test.YtfampmajmbediaaPx20
import Derived.Test.YtfampmajmbediaaPx21
import Derived.Test.YtfampmajmbediaaPx27
namespace Go.Proofs.Ytfampmajmbediaa.An
set_option linter.unusedVariables false
set_option linter.unusedSimpArgs false
open Go.RowKit Go.Proofs.Ytfampmajmbediaa.P Go.Proofs.YtfampmajmbediaaW.PrintWords Go.Proofs.YtfampmajmbediaaW.PrintLast

theorem w64 {x : Int} (h0 : -9223372036854775808 ≤ x) (h1 : x ≤ 9223372036854775807) : wrap64 x = x := by unfold wrap64; omega
theorem rdJ {l : List S27} {j : Nat} (h : j < l.length) : rd_T27 l (j : Int) = l[j] := by
  unfold rd_T27
  rw [Int.toNat_natCast, List.getD_eq_getElem?_getD, List.getElem?_eq_getElem h]
  rfl
/-! ### sizes -/
mutual
def tsz : S27 → Nat
  | ⟨_, _, c⟩ => 1 + tszL c
def tszL : List S27 → Nat
  | [] => 0
  | x :: l => tsz x + tszL l
end
mutual
/-- How many nodes have a function that is told by p. -/
def cnt (p : ByteArray → Bool) : S27 → Nat
  | ⟨a, _, c⟩ => (if p a then 1 else 0) + cntL p c
def cntL (p : ByteArray → Bool) : List S27 → Nat
  | [] => 0
  | x :: l => cnt p x + cntL p l
end
mutual
theorem tsz_bulk : ∀ t : S27, tsz t * 4 ≤ bulk27 t
  | ⟨a, b, c⟩ => by
    have := tszL_bulk c
    rw [tsz, bulk27]
    omega
theorem tszL_bulk : ∀ l : List S27, tszL l * 4 ≤ bulkL27 l
  | [] => by simp [tszL]
  | x :: l => by
    have h1 := tsz_bulk x
    have h2 := tszL_bulk l
    rw [tszL, bulkL27]
    omega
end
mutual
theorem cnt_tsz (p : ByteArray → Bool) : ∀ t : S27, cnt p t ≤ tsz t
  | ⟨a, b, c⟩ => by
    have := cntL_tsz p c
    rw [tsz, cnt]
    split <;> omega
theorem cntL_tsz (p : ByteArray → Bool) : ∀ l : List S27, cntL p l ≤ tszL l
  | [] => by simp [tszL, cntL]
  | x :: l => by
    have h1 := cnt_tsz p x
    have h2 := cntL_tsz p l
    rw [tszL, cntL]
    omega
end
theorem len_one (b : List Int) : (b.map (fun _ => 1)).sum = b.length := by
  induction b with
  | nil => rfl
  | cons x b ih => simp only [List.map_cons, List.sum_cons, List.length_cons, ih]; omega
theorem bulk_lenL : ∀ c : List S27, c.length ≤ bulkL27 c
  | [] => by simp
  | x :: l => by
    have := bulk_lenL l
    have h1 := tsz_bulk x
    have h2 : 1 ≤ tsz x := by cases x; rw [tsz]; omega
    rw [bulkL27, List.length_cons]
    omega
theorem bulk_vals (t : S27) : t.f1.length ≤ bulk27 t := by
  obtain ⟨a, b, c⟩ := t
  rw [bulk27, len_one]
  dsimp only
  omega
theorem bulk_kids (t : S27) : t.f2.length ≤ bulk27 t := by
  obtain ⟨a, b, c⟩ := t
  have := bulk_lenL c
  rw [bulk27]
  dsimp only
  omega
theorem bulk_memL : ∀ {c : List S27} {x : S27}, x ∈ c → bulk27 x ≤ bulkL27 c
  | y :: l, x, h => by
    rw [bulkL27]
    rcases List.mem_cons.1 h with rfl | h
    · omega
    · have := bulk_memL h
      omega
theorem bulk_mem {t x : S27} (h : x ∈ t.f2) : bulk27 x < bulk27 t := by
  obtain ⟨a, b, c⟩ := t
  have := bulk_memL (c := c) h
  rw [bulk27]
  omega
theorem tsz_pos (t : S27) : 1 ≤ tsz t := by cases t; rw [tsz]; omega
theorem tszL_drop {c : List S27} {j : Nat} (h : j < c.length) : tszL (c.drop j) = tsz c[j] + tszL (c.drop (j + 1)) := by rw [List.drop_eq_getElem_cons h, tszL]
theorem cntL_drop (p : ByteArray → Bool) {c : List S27} {j : Nat} (h : j < c.length) : cntL p (c.drop j) = cnt p c[j] + cntL p (c.drop (j + 1)) := by rw [List.drop_eq_getElem_cons h, cntL]
/-! ### Size -/
theorem ev_size : ∀ (n : Nat) (t : S27), bulk27 t < n → bulk27 t ≤ 1099511627776 → Ev (fun k => pentaglotref31_Size.f k t.f0 t.f1 t.f2) (tsz t : Int)
  | 0, t, h, _ => absurd h (Nat.not_lt_zero _)
  | n + 1, ⟨a, b, c⟩, h, hm => by
    have hsz := tsz_bulk ⟨a, b, c⟩
    rw [tsz] at hsz
    have hcl := bulk_kids ⟨a, b, c⟩
    dsimp only at hcl
    have loop : ∀ m j (s : Nat), c.length - j = m → j ≤ c.length → s + tszL (c.drop j) ≤ 1099511627776 → Ev (fun k => pentaglotref31_Size.l0 k (s : Int) (j : Int) a b c) ((s + tszL (c.drop j) : Nat) : Int) := by
      intro m
      induction m with
      | zero =>
        intro j s hj hjl hs
        have he : j = c.length := by omega
        subst he
        refine Ev.step (f := fun _ => some (s : Int)) (fun k => ?_) ?_
        · rw [pentaglotref31_Size.l0, if_neg (by omega)]
        · rw [List.drop_length, tszL, Nat.add_zero]
          exact Ev.now _
      | succ m ih =>
        intro j s hj hjl hs
        have hj' : j < c.length := by omega
        rw [tszL_drop hj'] at hs ⊢
        have hb := bulk_mem (t := ⟨a, b, c⟩) (List.getElem_mem hj')
        have hx := ev_size n c[j] (by omega) (by omega)
        refine Ev.step (f := fun k => (pentaglotref31_Size.f k c[j].f0 c[j].f1 c[j].f2).bind fun t => pentaglotref31_Size.l0 k (wrap64 (s + t)) (wrap64 (j + 1)) a b c) (fun k => ?_) ?_
        · rw [pentaglotref31_Size.l0, if_pos (by omega), if_pos (by omega), rdJ hj']
        · refine Ev.bind hx ?_
          have := ih (j + 1) (s + tsz c[j]) (by omega) (by omega) (by omega)
          rw [w64 (by omega) (by omega), w64 (by omega) (by omega)]
          rw [show ((s : Int) + (tsz c[j] : Nat)) = ((s + tsz c[j] : Nat) : Int) by omega, show ((j : Int) + 1) = ((j + 1 : Nat) : Int) by omega, ← Nat.add_assoc]
          exact this
    refine Ev.step (f := fun k => pentaglotref31_Size.l0 k ((1 : Nat) : Int) ((0 : Nat) : Int) a b c) (fun k => by rw [pentaglotref31_Size.f]; rfl) ?_
    have := loop _ 0 1 rfl (Nat.zero_le _) (by rw [List.drop_zero]; omega)
    rw [List.drop_zero] at this
    rw [tsz]
    exact this
/-! ### Count -/
theorem ev_count (fn : ByteArray) : ∀ (n : Nat) (t : S27), bulk27 t < n → bulk27 t ≤ 1099511627776 → Ev (fun k => pentaglotref46_Count.f k t.f0 t.f1 t.f2 fn) (cnt (fun a => a.toList == fn.toList) t : Int)
  | 0, t, h, _ => absurd h (Nat.not_lt_zero _)
  | n + 1, ⟨a, b, c⟩, h, hm => by
    have hsz := tsz_bulk ⟨a, b, c⟩
    rw [tsz] at hsz
    have hct := cntL_tsz (fun a => a.toList == fn.toList) c
    have hcl := bulk_kids ⟨a, b, c⟩
    dsimp only at hcl
    have loop : ∀ m j (s : Nat), c.length - j = m → j ≤ c.length → s + cntL (fun a => a.toList == fn.toList) (c.drop j) ≤ 1099511627776 → Ev (fun k => pentaglotref46_Count.l0 k fn (s : Int) (j : Int) a b c) ((s + cntL (fun a => a.toList == fn.toList) (c.drop j) : Nat) : Int) := by
      intro m
      induction m with
      | zero =>
        intro j s hj hjl hs
        have he : j = c.length := by omega
        subst he
        refine Ev.step (f := fun _ => some (s : Int)) (fun k => ?_) ?_
        · rw [pentaglotref46_Count.l0, if_neg (by omega)]
        · rw [List.drop_length, cntL, Nat.add_zero]
          exact Ev.now _
      | succ m ih =>
        intro j s hj hjl hs
        have hj' : j < c.length := by omega
        rw [cntL_drop _ hj'] at hs ⊢
        have hb := bulk_mem (t := ⟨a, b, c⟩) (List.getElem_mem hj')
        have hx := ev_count fn n c[j] (by omega) (by omega)
        refine Ev.step (f := fun k => (pentaglotref46_Count.f k c[j].f0 c[j].f1 c[j].f2 fn).bind fun t => pentaglotref46_Count.l0 k fn (wrap64 (s + t)) (wrap64 (j + 1)) a b c) (fun k => ?_) ?_
        · rw [pentaglotref46_Count.l0, if_pos (by omega), if_pos (by omega), rdJ hj']
        · refine Ev.bind hx ?_
          have := ih (j + 1) (s + cnt (fun a => a.toList == fn.toList) c[j]) (by omega) (by omega) (by omega)
          rw [w64 (by omega) (by omega), w64 (by omega) (by omega)]
          rw [show ((s : Int) + (cnt (fun a => a.toList == fn.toList) c[j] : Nat)) = ((s + cnt (fun a => a.toList == fn.toList) c[j] : Nat) : Int) by omega, show ((j : Int) + 1) = ((j + 1 : Nat) : Int) by omega, ← Nat.add_assoc]
          exact this
    have start : ∀ s : Nat, s ≤ 1 → Ev (fun k => pentaglotref46_Count.j0 k fn (s : Int) a b c) ((s + cntL (fun a => a.toList == fn.toList) c : Nat) : Int) := by
      intro s hs
      refine Ev.step (f := fun k => pentaglotref46_Count.l0 k fn (s : Int) ((0 : Nat) : Int) a b c) (fun k => by rw [pentaglotref46_Count.j0]; rfl) ?_
      have := loop _ 0 s rfl (Nat.zero_le _) (by rw [List.drop_zero]; omega)
      rwa [List.drop_zero] at this
    by_cases hf : a.toList = fn.toList
    · refine Ev.step (f := fun k => pentaglotref46_Count.j0 k fn ((1 : Nat) : Int) a b c) (fun k => by rw [pentaglotref46_Count.f, if_pos hf]; rfl) ?_
      rw [cnt, if_pos (by simp [hf])]
      exact start 1 (by omega)
    · refine Ev.step (f := fun k => pentaglotref46_Count.j0 k fn ((0 : Nat) : Int) a b c) (fun k => by rw [pentaglotref46_Count.f, if_neg hf]; rfl) ?_
      rw [cnt, if_neg (by simp [hf])]
      exact start 0 (by omega)
/-! ### Index, Well, Category, Sentence: they come to an end -/
theorem ev_index (L : List S67) (hL : L.length ≤ 1000) (nm : ByteArray) : ∃ i : Nat, i ≤ L.length ∧ Ev (fun k => pentaglotref31_Index.f k L nm) (i : Int) := by
  have loop : ∀ m j, L.length - j = m → j ≤ L.length → ∃ i : Nat, i ≤ L.length ∧ Ev (fun k => pentaglotref31_Index.l0 k L nm (j : Int)) (i : Int) := by
    intro m
    induction m with
    | zero =>
      intro j hj hjl
      refine ⟨L.length, Nat.le_refl _, Ev.step (f := fun _ => some ((L.length : Nat) : Int)) (fun k => ?_) (Ev.now _)⟩
      rw [pentaglotref31_Index.l0, if_neg (by omega)]
    | succ m ih =>
      intro j hj hjl
      by_cases hn : (rd_T67 L (j : Int)).f0.toList = nm.toList
      · refine ⟨j, hjl, Ev.step (f := fun _ => some (j : Int)) (fun k => ?_) (Ev.now _)⟩
        rw [pentaglotref31_Index.l0, if_pos (by omega), if_pos (by omega), if_pos hn]
      · obtain ⟨i, hi, he⟩ := ih (j + 1) (by omega) (by omega)
        refine ⟨i, hi, Ev.step (f := fun k => pentaglotref31_Index.l0 k L nm (wrap64 (j + 1))) (fun k => ?_) ?_⟩
        · rw [pentaglotref31_Index.l0, if_pos (by omega), if_pos (by omega), if_neg hn]
        · rw [w64 (by omega) (by omega), show ((j : Int) + 1) = ((j + 1 : Nat) : Int) by omega]
          exact he
  obtain ⟨i, hi, he⟩ := loop _ 0 rfl (Nat.zero_le _)
  exact ⟨i, hi, he⟩
theorem ev_value (n : Int) : ∃ v, pentaglotref31_Value.f n = some v := by
  unfold pentaglotref31_Value.f
  split <;> exact ⟨_, rfl⟩
theorem ev_well (L : List S67) (hL : L.length ≤ 1000) : ∀ (n : Nat) (t : S27), bulk27 t < n → bulk27 t ≤ 1099511627776 → ∃ v, Ev (fun k => pentaglotref31_Well.f k L t.f0 t.f1 t.f2) v
  | 0, t, h, _ => absurd h (Nat.not_lt_zero _)
  | n + 1, ⟨a, b, c⟩, h, hm => by
    have hcl := bulk_kids ⟨a, b, c⟩
    have hbl := bulk_vals ⟨a, b, c⟩
    dsimp only at hcl hbl
    obtain ⟨i, hi, hix⟩ := ev_index L hL a
    by_cases hiL : i = L.length
    · refine ⟨(⟨#[]⟩, false), Ev.step (f := fun k => (pentaglotref31_Index.f k L a).bind fun t => if t = (L.length : Int) then pentaglotref31_Well.j0 k L t true a b c else (if 0 ≤ t then (if t < (L.length : Int) then (if (c.length : Int) = (((rd_T67 L t).f1).length : Int) then (pentaglotref31_Well.j0 k L t ((b.length : Int) != ((rd_T67 L t).f3)) a b c) else (pentaglotref31_Well.j0 k L t true a b c)) else (none)) else (none))) (fun k => by rw [pentaglotref31_Well.f]) ?_⟩
      refine Ev.bind hix ?_
      simp only [if_pos (show (i : Int) = (L.length : Int) by omega)]
      exact Ev.step (f := fun _ => some (⟨#[]⟩, false)) (fun k => by rw [pentaglotref31_Well.j0, if_pos rfl]) (Ev.now _)
    · have hi0 : (0 : Int) ≤ (i : Int) := Int.natCast_nonneg _
      have hi1 : (i : Int) < (L.length : Int) := by omega
      have bad : Ev (fun k => pentaglotref31_Well.j0 k L (i : Int) true a b c) (⟨#[]⟩, false) := Ev.step (f := fun _ => some (⟨#[]⟩, false)) (fun k => by rw [pentaglotref31_Well.j0, if_pos rfl]) (Ev.now _)
      by_cases hargs : (c.length : Int) = (((rd_T67 L (i : Int)).f1).length : Int)
      case neg =>
        refine ⟨(⟨#[]⟩, false), Ev.step (f := fun k => (pentaglotref31_Index.f k L a).bind fun t => if t = (L.length : Int) then pentaglotref31_Well.j0 k L t true a b c else (if 0 ≤ t then (if t < (L.length : Int) then (if (c.length : Int) = (((rd_T67 L t).f1).length : Int) then (pentaglotref31_Well.j0 k L t ((b.length : Int) != ((rd_T67 L t).f3)) a b c) else (pentaglotref31_Well.j0 k L t true a b c)) else (none)) else (none))) (fun k => by rw [pentaglotref31_Well.f]) ?_⟩
        refine Ev.bind hix ?_
        simp only [if_neg (show ¬ (i : Int) = (L.length : Int) by omega), if_pos hi0, if_pos hi1, if_neg hargs]
        exact bad
      have kids : ∀ m j, c.length - j = m → j ≤ c.length → ∃ v, Ev (fun k => pentaglotref31_Well.l1 k L (i : Int) (j : Int) a b c) v := by
        intro m
        induction m with
        | zero =>
          intro j hj hjl
          refine ⟨((rd_T67 L (i : Int)).f2, true), Ev.step (f := fun _ => some ((rd_T67 L (i : Int)).f2, true)) (fun k => ?_) (Ev.now _)⟩
          rw [pentaglotref31_Well.l1, if_neg (by omega), if_pos hi0, if_pos hi1]
        | succ m ih =>
          intro j hj hjl
          have hj' : j < c.length := by omega
          have hb := bulk_mem (t := ⟨a, b, c⟩) (List.getElem_mem hj')
          obtain ⟨v, hv⟩ := ev_well L hL n c[j] (by omega) (by omega)
          obtain ⟨v', hv'⟩ := ih (j + 1) (by omega) (by omega)
          have hE : ∀ r, Ev (fun k => if v.2 = true then (if 0 ≤ (i : Int) then (if (i : Int) < (L.length : Int) then (if (j : Int) < (((rd_T67 L (i : Int)).f1).length : Int) then (if v.1.toList = (rdOf ByteArray.empty ((rd_T67 L (i : Int)).f1) (j : Int)).toList then (pentaglotref31_Well.l1 k L (i : Int) (wrap64 ((j : Int) + 1)) a b c) else (some ((⟨#[]⟩ : ByteArray), false))) else (none)) else (none)) else (none)) else (some ((⟨#[]⟩ : ByteArray), false))) r → Ev (fun k => pentaglotref31_Well.l1 k L (i : Int) (j : Int) a b c) r := by
            intro r hr
            refine Ev.step (f := fun k => (pentaglotref31_Well.f k L c[j].f0 c[j].f1 c[j].f2).bind fun bt => if bt.2 = true then (if 0 ≤ (i : Int) then (if (i : Int) < (L.length : Int) then (if (j : Int) < (((rd_T67 L (i : Int)).f1).length : Int) then (if bt.1.toList = (rdOf ByteArray.empty ((rd_T67 L (i : Int)).f1) (j : Int)).toList then (pentaglotref31_Well.l1 k L (i : Int) (wrap64 ((j : Int) + 1)) a b c) else (some ((⟨#[]⟩ : ByteArray), false))) else (none)) else (none)) else (none)) else (some ((⟨#[]⟩ : ByteArray), false))) (fun k => ?_) (Ev.bind hv hr)
            rw [pentaglotref31_Well.l1, if_pos (by omega), if_pos (by omega), rdJ hj']
          by_cases h1 : v.2 = true
          case neg => exact ⟨_, hE _ (by simp only [if_neg h1]; exact Ev.now _)⟩
          by_cases h2 : v.1.toList = (rdOf ByteArray.empty ((rd_T67 L (i : Int)).f1) (j : Int)).toList
          case neg => exact ⟨_, hE _ (by simp only [if_pos h1, if_pos hi0, if_pos hi1, if_pos (show (j : Int) < (((rd_T67 L (i : Int)).f1).length : Int) by omega), if_neg h2]; exact Ev.now _)⟩
          refine ⟨v', hE _ ?_⟩
          simp only [if_pos h1, if_pos hi0, if_pos hi1, if_pos (show (j : Int) < (((rd_T67 L (i : Int)).f1).length : Int) by omega), if_pos h2]
          rw [w64 (by omega) (by omega), show ((j : Int) + 1) = ((j + 1 : Nat) : Int) by omega]
          exact hv'
      have vals : ∀ m j, b.length - j = m → j ≤ b.length → ∃ v, Ev (fun k => pentaglotref31_Well.l0 k L (i : Int) (j : Int) a b c) v := by
        intro m
        induction m with
        | zero =>
          intro j hj hjl
          obtain ⟨v, hv⟩ := kids _ 0 rfl (Nat.zero_le _)
          refine ⟨v, Ev.step (f := fun k => pentaglotref31_Well.l1 k L (i : Int) 0 a b c) (fun k => ?_) hv⟩
          rw [pentaglotref31_Well.l0, if_neg (by omega)]
        | succ m ih =>
          intro j hj hjl
          obtain ⟨v', hv'⟩ := ih (j + 1) (by omega) (by omega)
          obtain ⟨q, hq⟩ := ev_value (rd b (j : Int))
          cases q with
          | false =>
            refine ⟨(⟨#[]⟩, false), Ev.step (f := fun _ => some (⟨#[]⟩, false)) (fun k => ?_) (Ev.now _)⟩
            rw [pentaglotref31_Well.l0, if_pos (by omega), if_pos (by omega), hq]
            rfl
          | true =>
            refine ⟨v', Ev.step (f := fun k => pentaglotref31_Well.l0 k L (i : Int) (wrap64 (j + 1)) a b c) (fun k => ?_) ?_⟩
            · rw [pentaglotref31_Well.l0, if_pos (by omega), if_pos (by omega), hq]
              rfl
            · rw [w64 (by omega) (by omega), show ((j : Int) + 1) = ((j + 1 : Nat) : Int) by omega]
              exact hv'
      have join : ∃ v, Ev (fun k => pentaglotref31_Well.j0 k L (i : Int) ((b.length : Int) != ((rd_T67 L (i : Int)).f3)) a b c) v := by
        cases hq : ((b.length : Int) != ((rd_T67 L (i : Int)).f3))
        · obtain ⟨v, hv⟩ := vals _ 0 rfl (Nat.zero_le _)
          exact ⟨v, Ev.step (f := fun k => pentaglotref31_Well.l0 k L (i : Int) 0 a b c) (fun k => by rw [pentaglotref31_Well.j0, if_neg (by decide)]) hv⟩
        · exact ⟨_, bad⟩
      obtain ⟨v, hv⟩ := join
      refine ⟨v, Ev.step (f := fun k => (pentaglotref31_Index.f k L a).bind fun t => if t = (L.length : Int) then pentaglotref31_Well.j0 k L t true a b c else (if 0 ≤ t then (if t < (L.length : Int) then (if (c.length : Int) = (((rd_T67 L t).f1).length : Int) then (pentaglotref31_Well.j0 k L t ((b.length : Int) != ((rd_T67 L t).f3)) a b c) else (pentaglotref31_Well.j0 k L t true a b c)) else (none)) else (none))) (fun k => by rw [pentaglotref31_Well.f]) ?_⟩
      refine Ev.bind hix ?_
      simp only [if_neg (show ¬ (i : Int) = (L.length : Int) by omega), if_pos hi0, if_pos hi1, if_pos hargs]
      exact hv
theorem fns_len : fnsL.length ≤ 1000 := by decide +kernel
/-- Sentence comes to an end, and says no of a tree of more than 60 nodes. -/
theorem ev_sentence (t : S27) (hm : bulk27 t ≤ 1099511627776) : ∃ s, Ev (fun k => pentaglotref39_Sentence.f k t.f0 t.f1 t.f2) s ∧ (s = true → tsz t ≤ 60) := by
  have hs := ev_size _ t (Nat.lt_succ_self _) hm
  obtain ⟨v, hv⟩ := ev_well fnsL fns_len _ t (Nat.lt_succ_self _) hm
  have cat : ∃ r : ByteArray × Int, Ev (fun k => pentaglotref31_Category.f k fnsL t.f0 t.f1 t.f2) r ∧ (r.2 = 0 → tsz t ≤ 60) := by
    by_cases hb : (tsz t : Int) > 60
    · refine ⟨(⟨#[]⟩, 2), ?_, fun h => by simp at h⟩
      refine Ev.congr (f := fun k => (pentaglotref31_Size.f k t.f0 t.f1 t.f2).bind fun n => (if n > 60 then (some ((⟨#[]⟩ : ByteArray), 2)) else ((pentaglotref31_Well.f k fnsL t.f0 t.f1 t.f2).bind fun bt => (if bt.2 = true then (some (bt.1, 0)) else (some ((⟨#[]⟩ : ByteArray), 6)))))) (fun k => rfl) (Ev.bind hs ?_)
      simp only [if_pos hb]
      exact Ev.now _
    · refine ⟨if v.2 = true then (v.1, 0) else (⟨#[]⟩, 6), ?_, fun _ => by omega⟩
      refine Ev.congr (f := fun k => (pentaglotref31_Size.f k t.f0 t.f1 t.f2).bind fun n => (if n > 60 then (some ((⟨#[]⟩ : ByteArray), 2)) else ((pentaglotref31_Well.f k fnsL t.f0 t.f1 t.f2).bind fun bt => (if bt.2 = true then (some (bt.1, 0)) else (some ((⟨#[]⟩ : ByteArray), 6)))))) (fun k => rfl) (Ev.bind hs ?_)
      simp only [if_neg hb]
      refine Ev.bind (f := fun _ bt => (if bt.2 = true then (some (bt.1, (0 : Int))) else (some ((⟨#[]⟩ : ByteArray), 6)))) hv ?_
      by_cases h2 : v.2 = true
      · simp only [if_pos h2]
        exact Ev.now _
      · simp only [if_neg h2]
        exact Ev.now _
  obtain ⟨r, hr, hr0⟩ := cat
  refine ⟨if r.2 = 0 then (r.1.toList == ([83] : List UInt8)) else false, ?_, fun h => ?_⟩
  · refine Ev.congr (f := fun k => (pentaglotref31_Category.f k fnsL t.f0 t.f1 t.f2).bind fun bt => (if bt.2 = 0 then (some (bt.1.toList == ([83] : List UInt8))) else (some false))) (fun k => rfl) (Ev.bind hr ?_)
    by_cases h2 : r.2 = 0
    · simp only [if_pos h2]
      exact Ev.now _
    · simp only [if_neg h2]
      exact Ev.now _
  · by_cases h2 : r.2 = 0
    · exact hr0 h2
    · rw [if_neg h2] at h
      cases h
end Go.Proofs.Ytfampmajmbediaa.An
