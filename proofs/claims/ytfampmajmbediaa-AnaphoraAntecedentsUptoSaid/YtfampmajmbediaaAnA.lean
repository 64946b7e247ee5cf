/- Plain facts on trees: sizes, copies, nodes, which are well formed; that the functions that walk them come to an end. -/
import Derived.Test.YtfampmajmbediaaPx0
import Derived.Test.YtfampmajmbediaaPx1
import Derived.Test.YtfampmajmbediaaPx2
import Derived.Test.YtfampmajmbediaaPx3
import Derived.Test.YtfampmajmbediaaPx4
import Derived.Test.YtfampmajmbediaaPx5
import Derived.Test.YtfampmajmbediaaPx7
import Derived.Test.YtfampmajmbediaaPx8
import Derived.Test.YtfampmajmbediaaPx9
import Derived.Test.YtfampmajmbediaaPx18
import Derived.Test.YtfampmajmbediaaPx19
import Derived.Test.YtfampmajmbediaaPx20
import Derived.Test.YtfampmajmbediaaPx21
import Derived.Test.YtfampmajmbediaaPx22
namespace Go.Proofs.Ytfampmajmbediaa.An
set_option linter.unusedVariables false
set_option linter.unusedSimpArgs false
open Go.RowKit Go.Proofs.Ytfampmajmbediaa.P Go.Proofs.YtfampmajmbediaaW.PrintWords Go.Proofs.YtfampmajmbediaaW.PrintLast

theorem w64 {x : Int} (h0 : -9223372036854775808 ≤ x) (h1 : x ≤ 9223372036854775807) : wrap64 x = x := by unfold wrap64; omega
theorem rdJ {l : List S27} {j : Nat} (h : j < l.length) : rd_T27 l (j : Int) = l[j] := by
 unfold rd_T27
 rw [Int.toNat_natCast, List.getD_eq_getElem?_getD, List.getElem?_eq_getElem h]
 rfl
/-! ### sizes -/
mutual
def tsz : S27 → Nat
 | ⟨_, _, c⟩ => 1 + tszL c
def tszL : List S27 → Nat
 | [] => 0
 | x :: l => tsz x + tszL l
end
mutual
/-- How many nodes have a function that is told by p. -/
def cnt (p : ByteArray → Bool) : S27 → Nat
 | ⟨a, _, c⟩ => (if p a then 1 else 0) + cntL p c
def cntL (p : ByteArray → Bool) : List S27 → Nat
 | [] => 0
 | x :: l => cnt p x + cntL p l
end
mutual
theorem tsz_bulk : ∀ t : S27, tsz t * 4 ≤ bulk27 t
 | ⟨a, b, c⟩ => by
  have := tszL_bulk c
  rw [tsz, bulk27]
  omega
theorem tszL_bulk : ∀ l : List S27, tszL l * 4 ≤ bulkL27 l
 | [] => by simp [tszL]
 | x :: l => by
  have h1 := tsz_bulk x
  have h2 := tszL_bulk l
  rw [tszL, bulkL27]
  omega
end
mutual
theorem cnt_tsz (p : ByteArray → Bool) : ∀ t : S27, cnt p t ≤ tsz t
 | ⟨a, b, c⟩ => by
  have := cntL_tsz p c
  rw [tsz, cnt]
  split <;> omega
theorem cntL_tsz (p : ByteArray → Bool) : ∀ l : List S27, cntL p l ≤ tszL l
 | [] => by simp [tszL, cntL]
 | x :: l => by
  have h1 := cnt_tsz p x
  have h2 := cntL_tsz p l
  rw [tszL, cntL]
  omega
end
theorem len_one (b : List Int) : (b.map (fun _ => 1)).sum = b.length := by
 induction b with
 | nil => rfl
 | cons x b ih => simp only [List.map_cons, List.sum_cons, List.length_cons, ih]; omega
theorem bulk_lenL : ∀ c : List S27, c.length ≤ bulkL27 c
 | [] => by simp
 | x :: l => by
  have := bulk_lenL l
  have h1 := tsz_bulk x
  have h2 : 1 ≤ tsz x := by cases x; rw [tsz]; omega
  rw [bulkL27, List.length_cons]
  omega
theorem bulk_vals (t : S27) : t.f1.length ≤ bulk27 t := by
 obtain ⟨a, b, c⟩ := t
 rw [bulk27, len_one]
 dsimp only
 omega
theorem bulk_kids (t : S27) : t.f2.length ≤ bulk27 t := by
 obtain ⟨a, b, c⟩ := t
 have := bulk_lenL c
 rw [bulk27]
 dsimp only
 omega
theorem bulk_memL : ∀ {c : List S27} {x : S27}, x ∈ c → bulk27 x ≤ bulkL27 c
 | y :: l, x, h => by
  rw [bulkL27]
  rcases List.mem_cons.1 h with rfl | h
  ·omega
  ·have := bulk_memL h
   omega
theorem bulk_mem {t x : S27} (h : x ∈ t.f2) : bulk27 x < bulk27 t := by
 obtain ⟨a, b, c⟩ := t
 have := bulk_memL (c := c) h
 rw [bulk27]
 omega
theorem tsz_pos (t : S27) : 1 ≤ tsz t := by cases t; rw [tsz]; omega
theorem tszL_drop {c : List S27} {j : Nat} (h : j < c.length) : tszL (c.drop j) = tsz c[j] + tszL (c.drop (j + 1)) := by rw [List.drop_eq_getElem_cons h, tszL]
theorem cntL_drop (p : ByteArray → Bool) {c : List S27} {j : Nat} (h : j < c.length) : cntL p (c.drop j) = cnt p c[j] + cntL p (c.drop (j + 1)) := by rw [List.drop_eq_getElem_cons h, cntL]
/-! ### Size -/
theorem ev_size : ∀ (n : Nat) (t : S27), bulk27 t < n → bulk27 t ≤ 1099511627776 → Ev (fun k => pentaglotref31_Size.f k t.f0 t.f1 t.f2) (tsz t : Int)
 | 0, t, h, _ => absurd h (Nat.not_lt_zero _)
 | n + 1, ⟨a, b, c⟩, h, hm => by
  have hsz := tsz_bulk ⟨a, b, c⟩
  rw [tsz] at hsz
  have hcl := bulk_kids ⟨a, b, c⟩
  dsimp only at hcl
  have loop : ∀ m j (s : Nat), c.length - j = m → j ≤ c.length → s + tszL (c.drop j) ≤ 1099511627776 → Ev (fun k => pentaglotref31_Size.l0 k (s : Int) (j : Int) a b c) ((s + tszL (c.drop j) : Nat) : Int) := by
   intro m
   induction m with
   | zero =>
    intro j s hj hjl hs
    have he : j = c.length := by omega
    subst he
    refine Ev.step (f := fun _ => some (s : Int)) (fun k => ?_) ?_
    ·rw [pentaglotref31_Size.l0, if_neg (by omega)]
    ·rw [List.drop_length, tszL, Nat.add_zero]
     exact Ev.now _
   | succ m ih =>
    intro j s hj hjl hs
    have hj' : j < c.length := by omega
    rw [tszL_drop hj'] at hs ⊢
    have hb := bulk_mem (t := ⟨a, b, c⟩) (List.getElem_mem hj')
    have hx := ev_size n c[j] (by omega) (by omega)
    refine Ev.step (f := fun k => (pentaglotref31_Size.f k c[j].f0 c[j].f1 c[j].f2).bind fun t => pentaglotref31_Size.l0 k (wrap64 (s + t)) (wrap64 (j + 1)) a b c) (fun k => ?_) ?_
    ·rw [pentaglotref31_Size.l0, if_pos (by omega), if_pos (by omega), rdJ hj']
    ·refine Ev.bind hx ?_
     have := ih (j + 1) (s + tsz c[j]) (by omega) (by omega) (by omega)
     rw [w64 (by omega) (by omega), w64 (by omega) (by omega)]
     rw [show ((s : Int) + (tsz c[j] : Nat)) = ((s + tsz c[j] : Nat) : Int) by omega, show ((j : Int) + 1) = ((j + 1 : Nat) : Int) by omega, ← Nat.add_assoc]
     exact this
  refine Ev.step (f := fun k => pentaglotref31_Size.l0 k ((1 : Nat) : Int) ((0 : Nat) : Int) a b c) (fun k => by rw [pentaglotref31_Size.f]; rfl) ?_
  have := loop _ 0 1 rfl (Nat.zero_le _) (by rw [List.drop_zero]; omega)
  rw [List.drop_zero] at this
  rw [tsz]
  exact this
/-! ### Index, Well, Category, Sentence: they come to an end -/
theorem ev_index (L : List S67) (hL : L.length ≤ 1000) (nm : ByteArray) : ∃ i : Nat, i ≤ L.length ∧ Ev (fun k => pentaglotref31_Index.f k L nm) (i : Int) := by
 have loop : ∀ m j, L.length - j = m → j ≤ L.length → ∃ i : Nat, i ≤ L.length ∧ Ev (fun k => pentaglotref31_Index.l0 k L nm (j : Int)) (i : Int) := by
  intro m
  induction m with
  | zero =>
   intro j hj hjl
   refine ⟨L.length, Nat.le_refl _, Ev.step (f := fun _ => some ((L.length : Nat) : Int)) (fun k => ?_) (Ev.now _)⟩
   rw [pentaglotref31_Index.l0, if_neg (by omega)]
  | succ m ih =>
   intro j hj hjl
   by_cases hn : (rd_T67 L (j : Int)).f0.toList = nm.toList
   ·refine ⟨j, hjl, Ev.step (f := fun _ => some (j : Int)) (fun k => ?_) (Ev.now _)⟩
    rw [pentaglotref31_Index.l0, if_pos (by omega), if_pos (by omega), if_pos hn]
   ·obtain ⟨i, hi, he⟩ := ih (j + 1) (by omega) (by omega)
    refine ⟨i, hi, Ev.step (f := fun k => pentaglotref31_Index.l0 k L nm (wrap64 (j + 1))) (fun k => ?_) ?_⟩
    ·rw [pentaglotref31_Index.l0, if_pos (by omega), if_pos (by omega), if_neg hn]
    ·rw [w64 (by omega) (by omega), show ((j : Int) + 1) = ((j + 1 : Nat) : Int) by omega]
     exact he
 obtain ⟨i, hi, he⟩ := loop _ 0 rfl (Nat.zero_le _)
 exact ⟨i, hi, he⟩
theorem ev_value (n : Int) : ∃ v, pentaglotref31_Value.f n = some v := by
 unfold pentaglotref31_Value.f
 split <;> exact ⟨_, rfl⟩
theorem ev_well (L : List S67) (hL : L.length ≤ 1000) : ∀ (n : Nat) (t : S27), bulk27 t < n → bulk27 t ≤ 1099511627776 → ∃ v, Ev (fun k => pentaglotref31_Well.f k L t.f0 t.f1 t.f2) v
 | 0, t, h, _ => absurd h (Nat.not_lt_zero _)
 | n + 1, ⟨a, b, c⟩, h, hm => by
  have hcl := bulk_kids ⟨a, b, c⟩
  have hbl := bulk_vals ⟨a, b, c⟩
  dsimp only at hcl hbl
  obtain ⟨i, hi, hix⟩ := ev_index L hL a
  by_cases hiL : i = L.length
  ·refine ⟨(⟨#[]⟩, false), Ev.step (f := fun k => (pentaglotref31_Index.f k L a).bind fun t => if t = (L.length : Int) then pentaglotref31_Well.j0 k L t true a b c else (if 0 ≤ t then (if t < (L.length : Int) then (if (c.length : Int) = (((rd_T67 L t).f1).length : Int) then (pentaglotref31_Well.j0 k L t ((b.length : Int) != ((rd_T67 L t).f3)) a b c) else (pentaglotref31_Well.j0 k L t true a b c)) else (none)) else (none))) (fun k => by rw [pentaglotref31_Well.f]) ?_⟩
   refine Ev.bind hix ?_
   simp only [if_pos (show (i : Int) = (L.length : Int) by omega)]
   exact Ev.step (f := fun _ => some (⟨#[]⟩, false)) (fun k => by rw [pentaglotref31_Well.j0, if_pos rfl]) (Ev.now _)
  ·have hi0 : (0 : Int) ≤ (i : Int) := Int.natCast_nonneg _
   have hi1 : (i : Int) < (L.length : Int) := by omega
   have bad : Ev (fun k => pentaglotref31_Well.j0 k L (i : Int) true a b c) (⟨#[]⟩, false) := Ev.step (f := fun _ => some (⟨#[]⟩, false)) (fun k => by rw [pentaglotref31_Well.j0, if_pos rfl]) (Ev.now _)
   by_cases hargs : (c.length : Int) = (((rd_T67 L (i : Int)).f1).length : Int)
   case neg =>
    refine ⟨(⟨#[]⟩, false), Ev.step (f := fun k => (pentaglotref31_Index.f k L a).bind fun t => if t = (L.length : Int) then pentaglotref31_Well.j0 k L t true a b c else (if 0 ≤ t then (if t < (L.length : Int) then (if (c.length : Int) = (((rd_T67 L t).f1).length : Int) then (pentaglotref31_Well.j0 k L t ((b.length : Int) != ((rd_T67 L t).f3)) a b c) else (pentaglotref31_Well.j0 k L t true a b c)) else (none)) else (none))) (fun k => by rw [pentaglotref31_Well.f]) ?_⟩
    refine Ev.bind hix ?_
    simp only [if_neg (show ¬ (i : Int) = (L.length : Int) by omega), if_pos hi0, if_pos hi1, if_neg hargs]
    exact bad
   have kids : ∀ m j, c.length - j = m → j ≤ c.length → ∃ v, Ev (fun k => pentaglotref31_Well.l1 k L (i : Int) (j : Int) a b c) v := by
    intro m
    induction m with
    | zero =>
     intro j hj hjl
     refine ⟨((rd_T67 L (i : Int)).f2, true), Ev.step (f := fun _ => some ((rd_T67 L (i : Int)).f2, true)) (fun k => ?_) (Ev.now _)⟩
     rw [pentaglotref31_Well.l1, if_neg (by omega), if_pos hi0, if_pos hi1]
    | succ m ih =>
     intro j hj hjl
     have hj' : j < c.length := by omega
     have hb := bulk_mem (t := ⟨a, b, c⟩) (List.getElem_mem hj')
     obtain ⟨v, hv⟩ := ev_well L hL n c[j] (by omega) (by omega)
     obtain ⟨v', hv'⟩ := ih (j + 1) (by omega) (by omega)
     have hE : ∀ r, Ev (fun k => if v.2 = true then (if 0 ≤ (i : Int) then (if (i : Int) < (L.length : Int) then (if (j : Int) < (((rd_T67 L (i : Int)).f1).length : Int) then (if v.1.toList = (rdOf ByteArray.empty ((rd_T67 L (i : Int)).f1) (j : Int)).toList then (pentaglotref31_Well.l1 k L (i : Int) (wrap64 ((j : Int) + 1)) a b c) else (some ((⟨#[]⟩ : ByteArray), false))) else (none)) else (none)) else (none)) else (some ((⟨#[]⟩ : ByteArray), false))) r → Ev (fun k => pentaglotref31_Well.l1 k L (i : Int) (j : Int) a b c) r := by
      intro r hr
      refine Ev.step (f := fun k => (pentaglotref31_Well.f k L c[j].f0 c[j].f1 c[j].f2).bind fun bt => if bt.2 = true then (if 0 ≤ (i : Int) then (if (i : Int) < (L.length : Int) then (if (j : Int) < (((rd_T67 L (i : Int)).f1).length : Int) then (if bt.1.toList = (rdOf ByteArray.empty ((rd_T67 L (i : Int)).f1) (j : Int)).toList then (pentaglotref31_Well.l1 k L (i : Int) (wrap64 ((j : Int) + 1)) a b c) else (some ((⟨#[]⟩ : ByteArray), false))) else (none)) else (none)) else (none)) else (some ((⟨#[]⟩ : ByteArray), false))) (fun k => ?_) (Ev.bind hv hr)
      rw [pentaglotref31_Well.l1, if_pos (by omega), if_pos (by omega), rdJ hj']
     by_cases h1 : v.2 = true
     case neg => exact ⟨_, hE _ (by simp only [if_neg h1]; exact Ev.now _)⟩
     by_cases h2 : v.1.toList = (rdOf ByteArray.empty ((rd_T67 L (i : Int)).f1) (j : Int)).toList
     case neg => exact ⟨_, hE _ (by simp only [if_pos h1, if_pos hi0, if_pos hi1, if_pos (show (j : Int) < (((rd_T67 L (i : Int)).f1).length : Int) by omega), if_neg h2]; exact Ev.now _)⟩
     refine ⟨v', hE _ ?_⟩
     simp only [if_pos h1, if_pos hi0, if_pos hi1, if_pos (show (j : Int) < (((rd_T67 L (i : Int)).f1).length : Int) by omega), if_pos h2]
     rw [w64 (by omega) (by omega), show ((j : Int) + 1) = ((j + 1 : Nat) : Int) by omega]
     exact hv'
   have vals : ∀ m j, b.length - j = m → j ≤ b.length → ∃ v, Ev (fun k => pentaglotref31_Well.l0 k L (i : Int) (j : Int) a b c) v := by
    intro m
    induction m with
    | zero =>
     intro j hj hjl
     obtain ⟨v, hv⟩ := kids _ 0 rfl (Nat.zero_le _)
     refine ⟨v, Ev.step (f := fun k => pentaglotref31_Well.l1 k L (i : Int) 0 a b c) (fun k => ?_) hv⟩
     rw [pentaglotref31_Well.l0, if_neg (by omega)]
    | succ m ih =>
     intro j hj hjl
     obtain ⟨v', hv'⟩ := ih (j + 1) (by omega) (by omega)
     obtain ⟨q, hq⟩ := ev_value (rd b (j : Int))
     cases q with
     | false =>
      refine ⟨(⟨#[]⟩, false), Ev.step (f := fun _ => some (⟨#[]⟩, false)) (fun k => ?_) (Ev.now _)⟩
      rw [pentaglotref31_Well.l0, if_pos (by omega), if_pos (by omega), hq]
      rfl
     | true =>
      refine ⟨v', Ev.step (f := fun k => pentaglotref31_Well.l0 k L (i : Int) (wrap64 (j + 1)) a b c) (fun k => ?_) ?_⟩
      ·rw [pentaglotref31_Well.l0, if_pos (by omega), if_pos (by omega), hq]
       rfl
      ·rw [w64 (by omega) (by omega), show ((j : Int) + 1) = ((j + 1 : Nat) : Int) by omega]
       exact hv'
   have join : ∃ v, Ev (fun k => pentaglotref31_Well.j0 k L (i : Int) ((b.length : Int) != ((rd_T67 L (i : Int)).f3)) a b c) v := by
    cases hq : ((b.length : Int) != ((rd_T67 L (i : Int)).f3))
    ·obtain ⟨v, hv⟩ := vals _ 0 rfl (Nat.zero_le _)
     exact ⟨v, Ev.step (f := fun k => pentaglotref31_Well.l0 k L (i : Int) 0 a b c) (fun k => by rw [pentaglotref31_Well.j0, if_neg (by decide)]) hv⟩
    ·exact ⟨_, bad⟩
   obtain ⟨v, hv⟩ := join
   refine ⟨v, Ev.step (f := fun k => (pentaglotref31_Index.f k L a).bind fun t => if t = (L.length : Int) then pentaglotref31_Well.j0 k L t true a b c else (if 0 ≤ t then (if t < (L.length : Int) then (if (c.length : Int) = (((rd_T67 L t).f1).length : Int) then (pentaglotref31_Well.j0 k L t ((b.length : Int) != ((rd_T67 L t).f3)) a b c) else (pentaglotref31_Well.j0 k L t true a b c)) else (none)) else (none))) (fun k => by rw [pentaglotref31_Well.f]) ?_⟩
   refine Ev.bind hix ?_
   simp only [if_neg (show ¬ (i : Int) = (L.length : Int) by omega), if_pos hi0, if_pos hi1, if_pos hargs]
   exact hv
theorem fns_len : fnsL.length ≤ 1000 := by decide +kernel
/-- Sentence comes to an end, and says no of a tree of more than 60 nodes. -/
theorem ev_sentence (t : S27) (hm : bulk27 t ≤ 1099511627776) : ∃ s, Ev (fun k => pentaglotref39_Sentence.f k t.f0 t.f1 t.f2) s ∧ (s = true → tsz t ≤ 60) := by
 have hs := ev_size _ t (Nat.lt_succ_self _) hm
 obtain ⟨v, hv⟩ := ev_well fnsL fns_len _ t (Nat.lt_succ_self _) hm
 have cat : ∃ r : ByteArray × Int, Ev (fun k => pentaglotref31_Category.f k fnsL t.f0 t.f1 t.f2) r ∧ (r.2 = 0 → tsz t ≤ 60) := by
  by_cases hb : (tsz t : Int) > 60
  ·refine ⟨(⟨#[]⟩, 2), ?_, fun h => by simp at h⟩
   refine Ev.congr (f := fun k => (pentaglotref31_Size.f k t.f0 t.f1 t.f2).bind fun n => (if n > 60 then (some ((⟨#[]⟩ : ByteArray), 2)) else ((pentaglotref31_Well.f k fnsL t.f0 t.f1 t.f2).bind fun bt => (if bt.2 = true then (some (bt.1, 0)) else (some ((⟨#[]⟩ : ByteArray), 6)))))) (fun k => rfl) (Ev.bind hs ?_)
   simp only [if_pos hb]
   exact Ev.now _
  ·refine ⟨if v.2 = true then (v.1, 0) else (⟨#[]⟩, 6), ?_, fun _ => by omega⟩
   refine Ev.congr (f := fun k => (pentaglotref31_Size.f k t.f0 t.f1 t.f2).bind fun n => (if n > 60 then (some ((⟨#[]⟩ : ByteArray), 2)) else ((pentaglotref31_Well.f k fnsL t.f0 t.f1 t.f2).bind fun bt => (if bt.2 = true then (some (bt.1, 0)) else (some ((⟨#[]⟩ : ByteArray), 6)))))) (fun k => rfl) (Ev.bind hs ?_)
   simp only [if_neg hb]
   refine Ev.bind (f := fun _ bt => (if bt.2 = true then (some (bt.1, (0 : Int))) else (some ((⟨#[]⟩ : ByteArray), 6)))) hv ?_
   by_cases h2 : v.2 = true
   ·simp only [if_pos h2]
    exact Ev.now _
   ·simp only [if_neg h2]
    exact Ev.now _
 obtain ⟨r, hr, hr0⟩ := cat
 refine ⟨if r.2 = 0 then (r.1.toList == ([83] : List UInt8)) else false, ?_, fun h => ?_⟩
 ·refine Ev.congr (f := fun k => (pentaglotref31_Category.f k fnsL t.f0 t.f1 t.f2).bind fun bt => (if bt.2 = 0 then (some (bt.1.toList == ([83] : List UInt8))) else (some false))) (fun k => rfl) (Ev.bind hr ?_)
  by_cases h2 : r.2 = 0
  ·simp only [if_pos h2]
   exact Ev.now _
  ·simp only [if_neg h2]
   exact Ev.now _
 ·by_cases h2 : r.2 = 0
  ·exact hr0 h2
  ·rw [if_neg h2] at h
   cases h
theorem ev_cloneI {b : List Int} (h : b.length ≤ 1099511627776) : slices_Clone_int_int.f b = some b := by
 unfold slices_Clone_int_int.f
 rw [if_pos (by omega)]
theorem ev_aclone : ∀ (n : Nat) (t : S27), bulk27 t < n → bulk27 t ≤ 1099511627776 → Ev (fun k => abstract_clone.f k t.f0 t.f1 t.f2) (t.f0, t.f1, t.f2)
 | 0, t, h, _ => absurd h (Nat.not_lt_zero _)
 | n + 1, ⟨a, b, c⟩, h, hm => by
  have hcl := bulk_kids ⟨a, b, c⟩
  have hbl := bulk_vals ⟨a, b, c⟩
  dsimp only at hcl hbl
  have loop : ∀ m j, c.length - j = m → j ≤ c.length → Ev (fun k => abstract_clone.l0 k c (c.length : Int) (j : Int) a b (c.take j)) (a, b, c) := by
   intro m
   induction m with
   | zero =>
    intro j hj hjl
    have he : j = c.length := by omega
    subst he
    refine Ev.step (f := fun _ => some (a, b, c)) (fun k => ?_) (Ev.now _)
    rw [abstract_clone.l0, if_neg (by omega), List.take_length]
   | succ m ih =>
    intro j hj hjl
    have hj' : j < c.length := by omega
    have hb := bulk_mem (t := ⟨a, b, c⟩) (List.getElem_mem hj')
    have hx := ev_aclone n c[j] (by omega) (by omega)
    refine Ev.step (f := fun k => (abstract_clone.f k c[j].f0 c[j].f1 c[j].f2).bind fun bt => if (c.take j).length < 2199023255552 then (abstract_clone.l0 k c (c.length : Int) (wrap64 ((j : Int) + 1)) a b (c.take j ++ [(⟨bt.1, bt.2.1, bt.2.2⟩ : S27)])) else none) (fun k => ?_) ?_
    ·rw [abstract_clone.l0, if_pos (by omega), if_pos (by omega), if_pos (by omega), rdJ hj']
    ·refine Ev.bind hx ?_
     simp only [if_pos (show (c.take j).length < 2199023255552 by rw [List.length_take]; omega)]
     have := ih (j + 1) (by omega) (by omega)
     rw [w64 (by omega) (by omega), show ((j : Int) + 1) = ((j + 1 : Nat) : Int) by omega]
     rw [List.take_succ_eq_append_getElem hj'] at this
     have he : (⟨c[j].f0, c[j].f1, c[j].f2⟩ : S27) = c[j] := by cases c[j]; rfl
     simp only [he]
     exact this
  refine Ev.step (f := fun k => (slices_Clone_int_int.f b).bind fun t => abstract_clone.l0 k c (c.length : Int) 0 a t ([] : List (S27))) (fun k => by rw [abstract_clone.f]) ?_
  rw [ev_cloneI (by omega)]
  exact loop _ 0 rfl (Nat.zero_le _)
def isPro (a : ByteArray) : Bool := decide (a.toList = ([73, 116] : List UInt8)) || a.toList == ([84, 104, 101, 121] : List UInt8)
theorem prB_isPro (x : S27) : prB x = isPro x.f0 := by
 unfold prB anaphora_pronoun.f isPro
 by_cases h : x.f0.toList = ([73, 116] : List UInt8)
 ·rw [if_pos h, decide_eq_true h]
  rfl
 ·rw [if_neg h, decide_eq_false h]
  rfl
mutual
theorem ev_nodes : ∀ (t : S27) (p : List Int), bulk27 t ≤ 1048576 → p.length + bulk27 t ≤ 3000000 → ∃ xs, Ev (fun k => nodesO k p t) xs ∧ xs.length = tsz t ∧ xs.countP (fun x => prB x.2) = cnt isPro t
 | ⟨a, b, c⟩, p, hm, hp => by
  have hk : bulkL27 c < bulk27 ⟨a, b, c⟩ := by rw [bulk27]; omega
  obtain ⟨xs, hx, hl, hc⟩ := ev_nodesL c p 0 (by omega) (by omega)
  refine ⟨(p, ⟨a, b, c⟩) :: xs, ?_, ?_, ?_⟩
  ·refine Ev.congr (f := fun k => (slices_Clone_int_int.f p).bind fun q => (abstract_clone.f k a b c).bind fun r => (nodesLO k p 0 c).bind fun l => some ((q, ⟨r.1, r.2.1, r.2.2⟩) :: l)) (fun k => by rw [nodesO]) ?_
   rw [ev_cloneI (by omega)]
   exact Ev.bind (f := fun k r => (nodesLO k p 0 c).bind fun l => some ((p, (⟨r.1, r.2.1, r.2.2⟩ : S27)) :: l)) (ev_aclone _ ⟨a, b, c⟩ (Nat.lt_succ_self _) (by omega)) (Ev.bind (f := fun _ l => some ((p, (⟨a, b, c⟩ : S27)) :: l)) hx (Ev.now _))
  ·rw [List.length_cons, hl, tsz]
   omega
  ·rw [List.countP_cons, hc, cnt, prB_isPro]
   dsimp only
   omega
theorem ev_nodesL : ∀ (l : List S27) (p : List Int) (i : Nat), bulkL27 l ≤ 1048576 → p.length + bulkL27 l + 1 ≤ 3000000 → ∃ xs, Ev (fun k => nodesLO k p i l) xs ∧ xs.length = tszL l ∧ xs.countP (fun x => prB x.2) = cntL isPro l
 | [], p, i, _, _ => ⟨[], Ev.congr (f := fun _ => some []) (fun k => by rw [nodesLO]) (Ev.now _), rfl, rfl⟩
 | x :: l, p, i, hm, hp => by
  rw [bulkL27] at hm hp
  obtain ⟨xs, hx, hl, hc⟩ := ev_nodes x (p ++ [(i : Int)]) (by omega) (by rw [List.length_append]; simp only [List.length_cons, List.length_nil]; omega)
  obtain ⟨ys, hy, hl', hc'⟩ := ev_nodesL l p (i + 1) (by omega) (by omega)
  refine ⟨xs ++ ys, ?_, ?_, ?_⟩
  ·refine Ev.congr (f := fun k => (nodesO k (p ++ [(i : Int)]) x).bind fun l' => (nodesLO k p (i + 1) l).bind fun m => some (l' ++ m)) (fun k => by rw [nodesLO]) ?_
   exact Ev.bind (f := fun k l' => (nodesLO k p (i + 1) l).bind fun m => some (l' ++ m)) hx (Ev.bind (f := fun _ m => some (xs ++ m)) hy (Ev.now _))
  ·rw [List.length_append, hl, hl', tszL]
  ·rw [List.countP_append, hc, hc', cntL]
end
/-- The pronouns of a tree, as the program counts them. -/
theorem ev_pronouns (t : S27) (hm : bulk27 t ≤ 1048576) : Ev (fun k => anaphora_Pronouns.f k t.f0 t.f1 t.f2) (cnt isPro t : Int) := by
 obtain ⟨a, b, c⟩ := t
 obtain ⟨xs, hx, hl, hc⟩ := ev_nodes ⟨a, b, c⟩ [] hm (by simp only [List.length_nil]; omega)
 have hb := tsz_bulk ⟨a, b, c⟩
 refine Ev.congr (f := fun k => (nodesO k [] ⟨a, b, c⟩).bind fun xs => if xs.length ≤ 1000000 then some ((xs.countP (fun x => prB x.2) : Nat) : Int) else none) (fun k => rfl) (Ev.bind hx ?_)
 simp only [if_pos (show xs.length ≤ 1000000 by omega), hc]
 exact Ev.now _
theorem eta27 (t : S27) : (⟨t.f0, t.f1, t.f2⟩ : S27) = t := by cases t; rfl
theorem bulk_pos (t : S27) : 4 ≤ bulk27 t := by obtain ⟨a, b, c⟩ := t; rw [bulk27]; omega
theorem ev_nclone : ∀ (n : Nat) (t : S27), bulk27 t < n → bulk27 t ≤ 1099511627776 → Ev (fun k => anaphora_clone.f k t.f0 t.f1 t.f2) (t.f0, t.f1, t.f2)
 | 0, t, h, _ => absurd h (Nat.not_lt_zero _)
 | n + 1, ⟨a, b, c⟩, h, hm => by
  have hcl := bulk_kids ⟨a, b, c⟩
  have hbl := bulk_vals ⟨a, b, c⟩
  dsimp only at hcl hbl
  have loop : ∀ m j, c.length - j = m → j ≤ c.length → Ev (fun k => anaphora_clone.l0 k c (c.length : Int) (j : Int) a b (c.take j)) (a, b, c) := by
   intro m
   induction m with
   | zero =>
    intro j hj hjl
    have he : j = c.length := by omega
    subst he
    refine Ev.step (f := fun _ => some (a, b, c)) (fun k => ?_) (Ev.now _)
    rw [anaphora_clone.l0, if_neg (by omega), List.take_length]
   | succ m ih =>
    intro j hj hjl
    have hj' : j < c.length := by omega
    have hb := bulk_mem (t := ⟨a, b, c⟩) (List.getElem_mem hj')
    have hx := ev_nclone n c[j] (by omega) (by omega)
    refine Ev.step (f := fun k => (anaphora_clone.f k c[j].f0 c[j].f1 c[j].f2).bind fun bt => if (c.take j).length < 2199023255552 then (anaphora_clone.l0 k c (c.length : Int) (wrap64 ((j : Int) + 1)) a b (c.take j ++ [(⟨bt.1, bt.2.1, bt.2.2⟩ : S27)])) else none) (fun k => ?_) ?_
    ·rw [anaphora_clone.l0, if_pos (by omega), if_pos (by omega), if_pos (by omega), rdJ hj']
    ·refine Ev.bind hx ?_
     simp only [if_pos (show (c.take j).length < 2199023255552 by rw [List.length_take]; omega)]
     have := ih (j + 1) (by omega) (by omega)
     rw [w64 (by omega) (by omega), show ((j : Int) + 1) = ((j + 1 : Nat) : Int) by omega]
     rw [List.take_succ_eq_append_getElem hj'] at this
     simp only [eta27]
     exact this
  refine Ev.step (f := fun k => anaphora_clone.l0 k c (c.length : Int) 0 a b ([] : List (S27))) (fun k => ?_) (loop _ 0 rfl (Nat.zero_le _))
  rw [anaphora_clone.f, if_pos (by simp only [List.length_nil]; omega), List.nil_append]
/-- The first kid. -/
theorem rd0 {c : List S27} (h : 0 < c.length) : rd_T27 c 0 = c[0] := rdJ (j := 0) h
theorem ev_subject : ∀ (n : Nat) (t : S27) (p : List Int), bulk27 t < n → p.length + bulk27 t ≤ 1099511627776 → ∃ r, Ev (fun k => anaphora_subject.l0 k p t.f0 t.f1 t.f2) r ∧ r.1.length ≤ p.length + bulk27 t
 | 0, t, p, h, _ => absurd h (Nat.not_lt_zero _)
 | n + 1, ⟨a, b, c⟩, p, h, hp => by
  by_cases hc : (c.length : Int) > 0
  case neg =>
   refine ⟨([], false), Ev.step (f := fun _ => some ([], false)) (fun k => ?_) (Ev.now _), by simp only [List.length_nil]; omega⟩
   rw [anaphora_subject.l0, if_neg hc]
  have hc' : 0 < c.length := by omega
  have hb := bulk_mem (t := ⟨a, b, c⟩) (List.getElem_mem hc')
  obtain ⟨r, hr, hrl⟩ := ev_subject n c[0] (p ++ [0]) (by omega) (by rw [List.length_append]; simp only [List.length_cons, List.length_nil]; omega)
  have hrl' : r.1.length ≤ p.length + bulk27 ⟨a, b, c⟩ := by rw [List.length_append] at hrl; simp only [List.length_cons, List.length_nil] at hrl; omega
  have hq : (p ++ [0]).length ≤ p.length + bulk27 ⟨a, b, c⟩ := by rw [List.length_append]; simp only [List.length_cons, List.length_nil]; have := bulk_pos ⟨a, b, c⟩; omega
  have hj : ∀ q : Bool, ∃ r, Ev (fun k => anaphora_subject.j1 k (p ++ [0]) a q a b c) r ∧ r.1.length ≤ p.length + bulk27 ⟨a, b, c⟩ := by
   intro q
   cases q with
   | true => exact ⟨(p ++ [0], true), Ev.step (f := fun _ => some (p ++ [0], true)) (fun k => by rw [anaphora_subject.j1, if_pos rfl]) (Ev.now _), hq⟩
   | false =>
    have go : (∀ k, anaphora_subject.j1 (k + 1) (p ++ [0]) a false a b c = anaphora_subject.l0 k (p ++ [0]) c[0].f0 c[0].f1 c[0].f2) ∨ (∀ k, anaphora_subject.j1 (k + 1) (p ++ [0]) a false a b c = some ([], false)) := by
     by_cases h1 : a.toList = ([68, 117, 114, 105, 110, 103] : List UInt8)
     ·exact .inl (fun k => by rw [anaphora_subject.j1, if_neg (by decide), if_pos h1, if_pos (by omega), rd0 hc'])
     by_cases h2 : a.toList = ([83, 105, 110, 99, 101] : List UInt8)
     ·exact .inl (fun k => by rw [anaphora_subject.j1, if_neg (by decide), if_neg h1, if_pos h2, if_pos (by omega), rd0 hc'])
     by_cases h3 : a.toList = ([85, 110, 116, 105, 108] : List UInt8)
     ·exact .inl (fun k => by rw [anaphora_subject.j1, if_neg (by decide), if_neg h1, if_neg h2, if_pos h3, if_pos (by omega), rd0 hc'])
     by_cases h4 : a.toList = ([80, 108, 101, 97, 115, 101] : List UInt8)
     ·exact .inl (fun k => by rw [anaphora_subject.j1, if_neg (by decide), if_neg h1, if_neg h2, if_neg h3, if_pos h4, if_pos (by omega), rd0 hc'])
     by_cases h5 : a.toList = ([65, 108, 115, 111] : List UInt8)
     ·exact .inl (fun k => by rw [anaphora_subject.j1, if_neg (by decide), if_neg h1, if_neg h2, if_neg h3, if_neg h4, if_pos h5, if_pos (by omega), rd0 hc'])
     ·exact .inr (fun k => by rw [anaphora_subject.j1, if_neg (by decide), if_neg h1, if_neg h2, if_neg h3, if_neg h4, if_neg h5])
    rcases go with go | go
    ·exact ⟨r, Ev.step go hr, hrl'⟩
    ·exact ⟨([], false), Ev.step (f := fun _ => some ([], false)) go (Ev.now _), by simp only [List.length_nil]; omega⟩
  have hl : p.length < 17592186044416 := by omega
  have st : ∃ q, ∀ k, anaphora_subject.l0 (k + 1) p a b c = anaphora_subject.j1 k (p ++ [0]) a q a b c := by
   by_cases h1 : a.toList = ([65, 115, 115, 101, 114, 116] : List UInt8)
   ·exact ⟨_, fun k => by rw [anaphora_subject.l0, if_pos hc, if_pos hl, Option.bind_some, if_pos h1]⟩
   by_cases h2 : a.toList = ([77, 117, 115, 116] : List UInt8)
   ·exact ⟨_, fun k => by rw [anaphora_subject.l0, if_pos hc, if_pos hl, Option.bind_some, if_neg h1, if_pos h2]⟩
   by_cases h3 : a.toList = ([77, 117, 115, 116, 78, 111, 116] : List UInt8)
   ·exact ⟨_, fun k => by rw [anaphora_subject.l0, if_pos hc, if_pos hl, Option.bind_some, if_neg h1, if_neg h2, if_pos h3]⟩
   ·exact ⟨_, fun k => by rw [anaphora_subject.l0, if_pos hc, if_pos hl, Option.bind_some, if_neg h1, if_neg h2, if_neg h3]⟩
  obtain ⟨q, hq'⟩ := st
  obtain ⟨r', hr', hrr⟩ := hj q
  exact ⟨r', Ev.step hq' hr', hrr⟩
/-- What At gives: a tree that is no larger. -/
theorem ev_at (p : List Int) (hp : p.length ≤ 1099511627776) : ∀ (m : Nat) (j : Nat) (t : S27), p.length - j = m → j ≤ p.length → bulk27 t ≤ 1099511627776 → ∃ r, Ev (fun k => abstract_At.l0 k p (p.length : Int) (j : Int) t.f0 t.f1 t.f2) r ∧ bulk27 ⟨r.1, r.2.1, r.2.2.1⟩ ≤ bulk27 t
 | 0, j, t, hj, hjl, hm => by
  refine ⟨(t.f0, t.f1, t.f2, true), Ev.step (f := fun k => (abstract_clone.f k t.f0 t.f1 t.f2).bind fun bt => some (bt.1, bt.2.1, bt.2.2, true)) (fun k => ?_) (Ev.bind (f := fun _ (bt : ByteArray × List Int × List S27) => some (bt.1, bt.2.1, bt.2.2, true)) (ev_aclone _ t (Nat.lt_succ_self _) hm) (Ev.now _)), by rw [eta27]; exact Nat.le_refl _⟩
  rw [abstract_At.l0, if_neg (by omega)]
 | m + 1, j, t, hj, hjl, hm => by
  have bad : bulk27 ⟨⟨#[]⟩, [], []⟩ ≤ bulk27 t := by have := bulk_pos t; rw [bulk27]; simp only [bulkL27, List.map_nil, List.sum_nil]; have : (⟨#[]⟩ : ByteArray).size = 0 := rfl; omega
  by_cases h1 : rd p (j : Int) < 0
  ·refine ⟨(⟨#[]⟩, [], [], false), Ev.step (f := fun _ => some (⟨#[]⟩, [], [], false)) (fun k => ?_) (Ev.now _), bad⟩
   rw [abstract_At.l0, if_pos (by omega), if_pos (by omega), if_pos (by omega), if_pos h1]
  by_cases h2 : rd p (j : Int) ≥ (t.f2.length : Int)
  ·refine ⟨(⟨#[]⟩, [], [], false), Ev.step (f := fun _ => some (⟨#[]⟩, [], [], false)) (fun k => ?_) (Ev.now _), bad⟩
   rw [abstract_At.l0, if_pos (by omega), if_pos (by omega), if_pos (by omega), if_neg h1, if_pos h2]
  obtain ⟨i, hi⟩ : ∃ i : Nat, rd p (j : Int) = (i : Int) := ⟨(rd p (j : Int)).toNat, by omega⟩
  have hil : i < t.f2.length := by omega
  have hb := bulk_mem (t := t) (List.getElem_mem hil)
  obtain ⟨r, hr, hrb⟩ := ev_at p hp m (j + 1) t.f2[i] (by omega) (by omega) (by omega)
  refine ⟨r, Ev.step (f := fun k => abstract_At.l0 k p (p.length : Int) (wrap64 ((j : Int) + 1)) t.f2[i].f0 t.f2[i].f1 t.f2[i].f2) (fun k => ?_) ?_, by omega⟩
  ·rw [abstract_At.l0, if_pos (by omega), if_pos (by omega), if_pos (by omega), if_neg h1, if_neg h2, if_pos (by omega), if_pos (by omega), hi, rdJ hil]
  ·rw [w64 (by omega) (by omega), show ((j : Int) + 1) = ((j + 1 : Nat) : Int) by omega]
   exact hr
theorem ev_number : ∀ (n : Nat) (t : S27), bulk27 t < n → ∃ r, Ev (fun k => anaphora_number.f k t.f0 t.f1 t.f2) r
 | 0, t, h => absurd h (Nat.not_lt_zero _)
 | n + 1, ⟨a, b, c⟩, h => by
  by_cases h1 : a.toList = ([78, 97, 109, 101] : List UInt8)
  ·exact ⟨_, Ev.step (f := fun _ => some _) (fun k => by rw [anaphora_number.f, if_pos h1]) (Ev.now _)⟩
  by_cases h2 : a.toList = ([66, 111, 116, 104] : List UInt8)
  case neg => exact ⟨_, Ev.step (f := fun _ => some _) (fun k => by rw [anaphora_number.f, if_neg h1, if_neg h2]) (Ev.now _)⟩
  by_cases h3 : (c.length : Int) = 2
  case neg => exact ⟨_, Ev.step (f := fun _ => some _) (fun k => by rw [anaphora_number.f, if_neg h1, if_pos h2, if_neg h3]) (Ev.now _)⟩
  have l0 : 0 < c.length := by omega
  have l1 : 1 < c.length := by omega
  have b0 := bulk_mem (t := ⟨a, b, c⟩) (List.getElem_mem l0)
  have b1 := bulk_mem (t := ⟨a, b, c⟩) (List.getElem_mem l1)
  obtain ⟨x, hx⟩ := ev_number n c[0] (by omega)
  obtain ⟨y, hy⟩ := ev_number n c[1] (by omega)
  have hE : ∀ r, Ev (fun k => if x.toList = ([] : List UInt8) then (some (⟨#[]⟩ : ByteArray)) else (if 1 < (c.length : Int) then ((anaphora_number.f k ((rd_T27 c 1).f0) ((rd_T27 c 1).f1) ((rd_T27 c 1).f2)).bind fun t143 => (if t143.toList = ([] : List UInt8) then (some (⟨#[]⟩ : ByteArray)) else (some (⟨#[84, 104, 101, 121]⟩ : ByteArray)))) else (none))) r → Ev (fun k => anaphora_number.f k a b c) r := by
   intro r hr
   refine Ev.step (f := fun k => (anaphora_number.f k c[0].f0 c[0].f1 c[0].f2).bind fun t141 => if t141.toList = ([] : List UInt8) then (some (⟨#[]⟩ : ByteArray)) else (if 1 < (c.length : Int) then ((anaphora_number.f k ((rd_T27 c 1).f0) ((rd_T27 c 1).f1) ((rd_T27 c 1).f2)).bind fun t143 => (if t143.toList = ([] : List UInt8) then (some (⟨#[]⟩ : ByteArray)) else (some (⟨#[84, 104, 101, 121]⟩ : ByteArray)))) else (none))) (fun k => ?_) (Ev.bind hx hr)
   rw [anaphora_number.f, if_neg h1, if_pos h2, if_pos h3, if_pos (by omega), rd0 l0]
  by_cases h4 : x.toList = ([] : List UInt8)
  ·exact ⟨_, hE _ (by simp only [if_pos h4]; exact Ev.now _)⟩
  have h5 : (1 : Int) < (c.length : Int) := by omega
  have e1 : rd_T27 c 1 = c[1] := rdJ (j := 1) l1
  refine ⟨if y.toList = ([] : List UInt8) then ⟨#[]⟩ else ⟨#[84, 104, 101, 121]⟩, hE _ ?_⟩
  simp only [if_neg h4, if_pos h5, e1]
  refine Ev.bind (f := fun _ (t143 : ByteArray) => (if t143.toList = ([] : List UInt8) then (some (⟨#[]⟩ : ByteArray)) else (some (⟨#[84, 104, 101, 121]⟩ : ByteArray)))) hy ?_
  by_cases h6 : y.toList = ([] : List UInt8)
  ·simp only [if_pos h6]
   exact Ev.now _
  ·simp only [if_neg h6]
   exact Ev.now _
/-! ### the same trees -/
mutual
theorem sameB_refl : ∀ t : S27, sameB t t = true
 | ⟨a, b, c⟩ => by
  rw [sameB]
  simp only [beq_self_eq_true, sameBL_refl c, Bool.and_self]
theorem sameBL_refl : ∀ l : List S27, sameBL l l = true
 | [] => by rw [sameBL]
 | x :: l => by rw [sameBL, sameB_refl x, sameBL_refl l]; rfl
end
/-! ### what the statements ask first -/
theorem ev_sentences (l : List S27) (hl : l.length ≤ 1000000) (hm : ∀ t ∈ l, bulk27 t ≤ 1048576) : ∃ s, Ev (fun k => pentaglotref46_Sentences.f k l) s ∧ (s = true → ∀ t ∈ l, tsz t ≤ 60) := by
 have loop : ∀ m j, l.length - j = m → j ≤ l.length → ∃ s, Ev (fun k => pentaglotref46_Sentences.l0 k l (j : Int)) s ∧ (s = true → ∀ t ∈ l.drop j, tsz t ≤ 60) := by
  intro m
  induction m with
  | zero =>
   intro j hj hjl
   refine ⟨true, Ev.step (f := fun _ => some true) (fun k => by rw [pentaglotref46_Sentences.l0, if_neg (by omega)]) (Ev.now _), fun _ t ht => ?_⟩
   rw [List.drop_of_length_le (by omega)] at ht
   cases ht
  | succ m ih =>
   intro j hj hjl
   have hj' : j < l.length := by omega
   obtain ⟨s, hs, hs60⟩ := ev_sentence l[j] (by have := hm _ (List.getElem_mem hj'); omega)
   have hE : ∀ r, Ev (fun k => if s = true then pentaglotref46_Sentences.l0 k l (wrap64 ((j : Int) + 1)) else some false) r → Ev (fun k => pentaglotref46_Sentences.l0 k l (j : Int)) r := by
    intro r hr
    refine Ev.step (f := fun k => (pentaglotref39_Sentence.f k l[j].f0 l[j].f1 l[j].f2).bind fun t270 => if t270 = true then pentaglotref46_Sentences.l0 k l (wrap64 ((j : Int) + 1)) else some false) (fun k => ?_) (Ev.bind hs hr)
    rw [pentaglotref46_Sentences.l0, if_pos (by omega), if_pos (by omega), rdJ hj']
   cases s with
   | false => exact ⟨false, hE _ (by simp only [Bool.false_eq_true, if_false]; exact Ev.now _), fun h => by cases h⟩
   | true =>
    obtain ⟨q, hq, hq60⟩ := ih (j + 1) (by omega) (by omega)
    refine ⟨q, hE _ ?_, fun h t ht => ?_⟩
    ·simp only [if_pos]
     rw [w64 (by omega) (by omega), show ((j : Int) + 1) = ((j + 1 : Nat) : Int) by omega]
     exact hq
    ·rw [List.drop_eq_getElem_cons hj'] at ht
     rcases List.mem_cons.1 ht with rfl | ht
     ·exact hs60 rfl
     ·exact hq60 h t ht
 obtain ⟨s, hs, h60⟩ := loop _ 0 rfl (Nat.zero_le _)
 exact ⟨s, hs, fun h t ht => h60 h t (by rw [List.drop_zero]; exact ht)⟩
theorem ev_notice (l : List S27) (hm : (l.map bulk27).sum + 1 ≤ 1048576) : ∃ s, Ev (fun k => pentaglotlaw46_notice.f k l) s ∧ (s = true → l.length ≤ 8 ∧ ∀ t ∈ l, bulk27 t ≤ 1048576 ∧ tsz t ≤ 60) := by
 have hb : ∀ t ∈ l, bulk27 t ≤ 1048576 := fun t ht => by
  have h1 := bulk_memL ht
  rw [bulkL27_eq] at h1
  omega
 by_cases h8 : (l.length : Int) ≤ 8
 ·obtain ⟨s, hs, h60⟩ := ev_sentences l (by omega) hb
  refine ⟨s, Ev.congr (f := fun k => (pentaglotref46_Sentences.f k l).bind fun t => some t) (fun k => by rw [pentaglotlaw46_notice.f, if_pos h8]) (Ev.bind (f := fun _ t => some t) hs (Ev.now _)), fun h => ⟨by omega, fun t ht => ⟨hb t ht, h60 h t ht⟩⟩⟩
 ·exact ⟨false, Ev.congr (f := fun _ => some false) (fun k => by rw [pentaglotlaw46_notice.f, if_neg h8]) (Ev.now _), fun h => by cases h⟩
end Go.Proofs.Ytfampmajmbediaa.An
