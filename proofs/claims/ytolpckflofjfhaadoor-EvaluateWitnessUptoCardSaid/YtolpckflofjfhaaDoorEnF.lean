import Derived.Test.YtolpckflofjfhaaDoorPx0
import Derived.Test.YtolpckflofjfhaaDoorPx1
import Derived.Test.YtolpckflofjfhaaDoorPx3
import Derived.Test.YtolpckflofjfhaaDoorPx4
import Derived.Test.YtolpckflofjfhaaDoorPx5
import Derived.Test.YtolpckflofjfhaaDoorPx8
import Derived.Test.YtolpckflofjfhaaDoorPx9
import Derived.Test.YtolpckflofjfhaaDoorPx10
import Derived.Test.YtolpckflofjfhaaDoorPx12
import Derived.Test.YtolpckflofjfhaaDoorPx16
import Derived.Test.YtolpckflofjfhaaDoorPx17
import Derived.Test.YtolpckflofjfhaaDoorPx21
import Derived.Test.YtolpckflofjfhaaDoorPx22
import Derived.Test.YtolpckflofjfhaaDoorEnB
namespace Go.Proofs.YtolpckflofjfhaaDoor.En
set_option linter.unusedVariables false
set_option linter.unusedSimpArgs false
set_option linter.unusedSectionVars false
open Go.RowKit Go.Proofs.YtolpckflofjfhaaDoor.P Go.Proofs.YtolpckflofjfhaaDoorW.PrintWords Go.Proofs.YtolpckflofjfhaaDoorW.PrintLast
theorem loopV {σ β : Type} (n : Nat) (F : σ → Int → Nat → Option β) (P : σ → Nat → β → Prop)
    (fin : ∀ s, TotP (F s (n : Int)) (P s n))
    (more : ∀ s (j : Nat), j < n → (∀ s', TotP (F s' ((j + 1 : Nat) : Int)) (P s' (j + 1))) → TotP (F s (j : Int)) (P s j)) : ∀ s, TotP (F s 0) (P s 0) := by
  have : ∀ m j, n - j = m → j ≤ n → ∀ s, TotP (F s (j : Int)) (P s j) := by
    intro m
    induction m with
    | zero =>
      intro j hj hjn s
      obtain rfl : j = n := by omega
      exact fin s
    | succ m ih => exact fun j hj hjn s => more s j (by omega) (fun s' => ih (j + 1) (by omega) (by omega) s')
  exact fun s => this _ 0 rfl (Nat.zero_le _) s
mutual
def sizeN : S32 → Nat
  | ⟨_, _, _, _, _, f⟩ => 1 + sizeL f
def sizeL : List S32 → Nat
  | [] => 0
  | x :: l => sizeN x + sizeL l
end
mutual
def depthN : S32 → Nat
  | ⟨_, _, _, _, _, f⟩ => depthL f + 1
def depthL : List S32 → Nat
  | [] => 0
  | x :: l => max (depthN x) (depthL l)
end
theorem sizeN_eq (t : S32) : sizeN t = 1 + sizeL t.f5 := by cases t; rw [sizeN]
theorem depthN_eq (t : S32) : depthN t = depthL t.f5 + 1 := by cases t; rw [depthN]
theorem sizeL_drop {l : List S32} {j : Nat} (h : j < l.length) : sizeL (l.drop j) = sizeN l[j] + sizeL (l.drop (j + 1)) := by rw [List.drop_eq_getElem_cons h, sizeL]
theorem depthL_drop {l : List S32} {j : Nat} (h : j < l.length) : depthL (l.drop j) = max (depthN l[j]) (depthL (l.drop (j + 1))) := by rw [List.drop_eq_getElem_cons h, depthL]
mutual
theorem size_bulk : ∀ t : S32, sizeN t ≤ bulk32 t
  | ⟨_, _, _, _, _, f⟩ => by have := sizeL_bulk f; rw [sizeN, bulk32]; omega
theorem sizeL_bulk : ∀ l : List S32, sizeL l ≤ bulkL32 l
  | [] => by rw [sizeL, bulkL32]; omega
  | x :: l => by have := size_bulk x; have := sizeL_bulk l; rw [sizeL, bulkL32]; omega
end
mutual
theorem depth_size : ∀ t : S32, depthN t ≤ sizeN t
  | ⟨_, _, _, _, _, f⟩ => by have := depthL_size f; rw [sizeN, depthN]; omega
theorem depthL_size : ∀ l : List S32, depthL l ≤ sizeL l
  | [] => by rw [sizeL, depthL]; omega
  | x :: l => by have := depth_size x; have := depthL_size l; rw [sizeL, depthL]; omega
end
theorem size_loop (l : List S32) (hl : sizeL l < 4398046511104) (F : Int → Int → Nat → Option Int) (g : S32 → Nat → Option Int) (kid : ∀ x ∈ l, TotP (g x) (fun r => r = (sizeN x : Int)))
    (fin : ∀ s k, F s (l.length : Int) (k + 1) = some s) (more : ∀ s (j : Nat) (h : j < l.length) k, F s (j : Int) (k + 1) = (g l[j] k).bind fun a => F (wrap64 (s + a)) ((j + 1 : Nat) : Int) k) : TotP (F 1 0) (fun r => r = ((1 + sizeL l : Nat) : Int)) := by
  refine TotP.weak (loopV l.length F (fun s j r => 0 ≤ s → s + sizeL (l.drop j) < 4398046511105 → r = s + sizeL (l.drop j)) (fun s => ?_) (fun s j hj ih => ?_) 1) (fun r hr => ?_)
  · refine TotP.step (fun k => fin s k) (TotP.now (fun _ _ => ?_))
    rw [List.drop_length, sizeL]; omega
  · refine TotP.step (fun k => more s j hj k) (TotP.bind (kid _ (List.getElem_mem hj)) (fun a ha => TotP.weak (ih _) (fun r hr h0 h1 => ?_)))
    subst ha
    rw [sizeL_drop hj] at h1 ⊢
    rw [w64 (by omega) (by omega)] at hr
    rw [hr (by omega) (by omega)]; omega
  · rw [List.drop_zero] at hr
    rw [hr (by omega) (by omega)]; omega
theorem depth_loop (l : List S32) (hl : sizeL l < 4398046511104) (F : Int → Int → Nat → Option Int) (g : S32 → Nat → Option Int) (kid : ∀ x ∈ l, TotP (g x) (fun r => r = (depthN x : Int)))
    (fin : ∀ s k, F s (l.length : Int) (k + 1) = some (wrap64 (s + 1))) (more : ∀ s (j : Nat) (h : j < l.length) k, F s (j : Int) (k + 1) = (g l[j] k).bind fun a => F (mx s a) ((j + 1 : Nat) : Int) k) : TotP (F 0 0) (fun r => r = ((depthL l + 1 : Nat) : Int)) := by
  have hm : ∀ a b : Int, mx a b = if a < b then b else a := fun _ _ => rfl
  have hd := depthL_size l
  refine TotP.weak (loopV l.length F (fun s j r => 0 ≤ s → s < 4398046511104 → depthL (l.drop j) < 4398046511104 → r = (if s < (depthL (l.drop j) : Int) then (depthL (l.drop j) : Int) else s) + 1) (fun s => ?_) (fun s j hj ih => ?_) 0) (fun r hr => ?_)
  · refine TotP.step (fun k => fin s k) (TotP.now (fun _ _ _ => ?_))
    rw [List.drop_length, depthL, w64 (by omega) (by omega)]; split <;> omega
  · refine TotP.step (fun k => more s j hj k) (TotP.bind (kid _ (List.getElem_mem hj)) (fun a ha => TotP.weak (ih _) (fun r hr h0 h1 h2 => ?_)))
    subst ha
    rw [depthL_drop hj] at h2 ⊢
    rw [hm] at hr
    rw [hr (by split <;> omega) (by split <;> omega) (by omega)]
    repeat' split
    all_goals omega
  · rw [List.drop_zero] at hr
    rw [hr (by omega) (by omega) (by omega)]; split <;> omega
theorem tv_fsize : ∀ (n : Nat) (t : S32), bulk32 t < n → n ≤ 4398046511104 → TotP (fun k => formula_Size.f k t.f0 t.f1 t.f2 t.f3 t.f4 t.f5) (fun r => r = (sizeN t : Int))
  | 0, t, h, _ => absurd h (Nat.not_lt_zero _)
  | n + 1, t, h, hn => by
    have hk := bulk_kids t
    have hs := size_bulk t
    rw [sizeN_eq] at hs ⊢
    refine TotP.step (fun _ => formula_Size.f.eq_2 ..) ?_
    refine size_loop t.f5 (by omega) (fun s i k => formula_Size.l0 k s t.f5 (t.f5.length : Int) i) _ (fun x hx => tv_fsize n x (by have := bulk_mem hx; omega) (by omega)) (fun s k => ?_) (fun s j hj k => ?_)
    · rw [formula_Size.l0, if_neg (by omega)]
    · rw [formula_Size.l0, if_pos (by omega), if_pos (by omega), if_pos (by omega), wj hj (by omega), rd32 hj]
theorem tv_rsize : ∀ (n : Nat) (t : S32), bulk32 t < n → n ≤ 4398046511104 → TotP (fun k => pentaglotref22_Size.f k t.f0 t.f1 t.f2 t.f3 t.f4 t.f5) (fun r => r = (sizeN t : Int))
  | 0, t, h, _ => absurd h (Nat.not_lt_zero _)
  | n + 1, t, h, hn => by
    have hk := bulk_kids t
    have hs := size_bulk t
    rw [sizeN_eq] at hs ⊢
    refine TotP.step (fun _ => pentaglotref22_Size.f.eq_2 ..) ?_
    refine size_loop t.f5 (by omega) (fun s i k => pentaglotref22_Size.l0 k s i t.f0 t.f1 t.f2 t.f3 t.f4 t.f5) _ (fun x hx => tv_rsize n x (by have := bulk_mem hx; omega) (by omega)) (fun s k => ?_) (fun s j hj k => ?_)
    · rw [pentaglotref22_Size.l0, if_neg (by omega)]
    · rw [pentaglotref22_Size.l0, if_pos (by omega), if_pos (by omega), wj hj (by omega), rd32 hj]
theorem tv_fdepth : ∀ (n : Nat) (t : S32), bulk32 t < n → n ≤ 4398046511104 → TotP (fun k => formula_Depth.f k t.f0 t.f1 t.f2 t.f3 t.f4 t.f5) (fun r => r = (depthN t : Int))
  | 0, t, h, _ => absurd h (Nat.not_lt_zero _)
  | n + 1, t, h, hn => by
    have hk := bulk_kids t
    have hs := size_bulk t
    rw [sizeN_eq] at hs
    rw [depthN_eq]
    refine TotP.step (fun _ => formula_Depth.f.eq_2 ..) ?_
    refine depth_loop t.f5 (by omega) (fun s i k => formula_Depth.l0 k s t.f5 (t.f5.length : Int) i) _ (fun x hx => tv_fdepth n x (by have := bulk_mem hx; omega) (by omega)) (fun s k => ?_) (fun s j hj k => ?_)
    · rw [formula_Depth.l0, if_neg (by omega)]
    · rw [formula_Depth.l0, if_pos (by omega), if_pos (by omega), if_pos (by omega), wj hj (by omega), rd32 hj]
theorem tv_rdepth : ∀ (n : Nat) (t : S32), bulk32 t < n → n ≤ 4398046511104 → TotP (fun k => pentaglotref22_Depth.f k t.f0 t.f1 t.f2 t.f3 t.f4 t.f5) (fun r => r = (depthN t : Int))
  | 0, t, h, _ => absurd h (Nat.not_lt_zero _)
  | n + 1, t, h, hn => by
    have hk := bulk_kids t
    have hs := size_bulk t
    rw [sizeN_eq] at hs
    rw [depthN_eq]
    refine TotP.step (fun _ => pentaglotref22_Depth.f.eq_2 ..) ?_
    refine depth_loop t.f5 (by omega) (fun s i k => pentaglotref22_Depth.l0 k s i t.f0 t.f1 t.f2 t.f3 t.f4 t.f5) _ (fun x hx => tv_rdepth n x (by have := bulk_mem hx; omega) (by omega)) (fun s k => ?_) (fun s j hj k => ?_)
    · rw [pentaglotref22_Depth.l0, if_neg (by omega)]
    · rw [pentaglotref22_Depth.l0, if_pos (by omega), if_pos (by omega), wj hj (by omega), rd32 hj]
def lowB (c : Int) : Prop := 97 ≤ c ∧ c ≤ 122
def tailB (c : Int) : Prop := lowB c ∨ (48 ≤ c ∧ c ≤ 57) ∨ c = 45
def SymP (s : ByteArray) : Prop := 0 < s.size ∧ lowB (bt s 0) ∧ ∀ i : Nat, i < s.size → tailB (bt s (i : Int))
theorem tv_ffirst (a : Int) : TotP (fun _ => formula_first.f a) (fun v => v = true ↔ lowB a) := by
  unfold formula_first.f lowB
  refine TotP.ite (fun h => TotP.now (by simp; omega)) (fun h => TotP.now (by simp; omega))
theorem tv_rlower (a : Int) : TotP (fun _ => pentaglotref22_lower.f a) (fun v => v = true ↔ lowB a) := by
  unfold pentaglotref22_lower.f lowB
  refine TotP.ite (fun h => TotP.now (by simp; omega)) (fun h => TotP.now (by simp; omega))
theorem tail_of {g : Nat → Option Bool} {a : Int} (h : TotP g (fun v => v = true ↔ lowB a)) : TotP (fun k => (g k).bind fun t => if t = true then some true else if a ≥ 48 then (if a ≤ 57 then some true else some (a == 45)) else some (a == 45)) (fun v => v = true ↔ tailB a) := by
  refine TotP.bind h (fun v hv => TotP.ite (fun he => TotP.now ?_) (fun he => ?_))
  · simp [tailB, hv.1 he]
  · have hn : ¬ lowB a := fun h => he (hv.2 h)
    refine TotP.ite (fun h1 => TotP.ite (fun h2 => TotP.now ?_) (fun h2 => TotP.now ?_)) (fun h1 => TotP.now ?_)
    · simp [tailB, hn]; omega
    · simp [tailB, hn]; omega
    · simp [tailB, hn]; omega
theorem tv_frest (a : Int) : TotP (fun _ => formula_rest.f a) (fun v => v = true ↔ tailB a) := tail_of (tv_ffirst a)
theorem tv_rtail (a : Int) : TotP (fun _ => pentaglotref22_tail.f a) (fun v => v = true ↔ tailB a) := tail_of (tv_rlower a)
theorem tv_fsymbol (s : ByteArray) (h : s.size < 4398046511104) : TotP (fun k => formula_symbol.f k s) (fun v => v = true ↔ SymP s) := by
  refine TotP.weak (loopI s.size (fun i k => formula_symbol.l0 k s i) (fun j v => v = true ↔ (0 < s.size ∧ lowB (bt s 0)) ∧ ∀ i : Nat, j ≤ i → i < s.size → tailB (bt s (i : Int))) (fun j hj => ?_) (fun j hj ih => ?_) 1) (fun v hv => ?_)
  · refine TotP.step (fun _ => formula_symbol.l0.eq_2 ..) ?_
    refine TotP.neg (show ¬ (j : Int) < (s.size : Int) by omega) ?_
    refine TotP.ite (fun he => TotP.now ⟨(fun h => by cases h), fun h => ?_⟩) (fun hne => ?_)
    · exfalso
      rw [Lib.toList_data] at he
      have h2 : s.size = s.data.size := rfl
      have h3 : s.data.size = s.data.toList.length := by simp
      rw [he] at h3
      simp only [List.length_nil] at h3
      have := h.1.1
      omega
    refine TotP.pos (pos_of_ne hne) ?_
    refine TotP.bind (tv_ffirst _) (fun v hv => TotP.now ⟨fun h => ⟨⟨by have := pos_of_ne hne; omega, hv.1 h⟩, fun i h1 h2 => by omega⟩, fun h => hv.2 h.1.2⟩)
  · refine TotP.step (fun _ => formula_symbol.l0.eq_2 ..) ?_
    rw [wj hj (by omega)]
    refine TotP.pos (show (j : Int) < (s.size : Int) by omega) ?_
    refine TotP.pos (show 0 ≤ (j : Int) by omega) ?_
    refine TotP.bind (tv_frest _) (fun v hv => TotP.ite (fun he => TotP.weak ih (fun w hw => ?_)) (fun he => TotP.now ⟨(fun h => by cases h), fun h => absurd (hv.2 (h.2 j (Nat.le_refl _) hj)) he⟩))
    rw [hw]
    refine ⟨fun h => ⟨h.1, fun i h1 h2 => ?_⟩, fun h => ⟨h.1, fun i h1 h2 => h.2 i (by omega) h2⟩⟩
    rcases Nat.eq_or_lt_of_le h1 with rfl | h3
    · exact hv.1 he
    · exact h.2 i h3 h2
  · rw [hv]
    refine ⟨fun h => ⟨h.1.1, h.1.2, fun i hi => ?_⟩, fun h => ⟨⟨h.1, h.2.1⟩, fun i _ hi => h.2.2 i hi⟩⟩
    rcases Nat.eq_zero_or_pos i with rfl | h0
    · exact .inl h.1.2
    · exact h.2 i h0 hi
theorem tv_rsymbol (s : ByteArray) (h : s.size < 4398046511104) : TotP (fun k => pentaglotref22_Symbol.f k s) (fun v => v = true ↔ SymP s) := by
  refine TotP.weak (loopI s.size (fun i k => pentaglotref22_Symbol.l0 k s i) (fun j v => v = true ↔ 0 < s.size ∧ (j = 0 → lowB (bt s 0)) ∧ ∀ i : Nat, j ≤ i → i < s.size → tailB (bt s (i : Int))) (fun j hj => ?_) (fun j hj ih => ?_) 0) (fun v hv => ?_)
  · refine TotP.step (fun _ => pentaglotref22_Symbol.l0.eq_2 ..) ?_
    refine TotP.neg (show ¬ (j : Int) < (s.size : Int) by omega) ?_
    refine TotP.now ⟨fun h => ?_, fun h => by simpa using h.1⟩
    have h0 : 0 < s.size := by simpa using h
    exact ⟨h0, fun hj0 => by omega, fun i h1 h2 => by omega⟩
  · refine TotP.step (fun _ => pentaglotref22_Symbol.l0.eq_2 ..) ?_
    rw [wj hj (by omega)]
    have next : ∀ v, (v = true ↔ tailB (bt s (j : Int))) → (j = 0 → lowB (bt s 0)) → TotP (fun k => if v = true then pentaglotref22_Symbol.l0 k s ((j + 1 : Nat) : Int) else some false) (fun v => v = true ↔ 0 < s.size ∧ (j = 0 → lowB (bt s 0)) ∧ ∀ i : Nat, j ≤ i → i < s.size → tailB (bt s (i : Int))) := by
      intro v hv hl
      refine TotP.ite (fun he => TotP.weak ih (fun w hw => ?_)) (fun he => TotP.now ⟨(fun h => by cases h), fun h => absurd (hv.2 (h.2.2 j (Nat.le_refl _) hj)) he⟩)
      rw [hw]
      refine ⟨fun h => ⟨h.1, hl, fun i h1 h2 => ?_⟩, fun h => ⟨h.1, fun h => by omega, fun i h1 h2 => h.2.2 i (by omega) h2⟩⟩
      rcases Nat.eq_or_lt_of_le h1 with rfl | h3
      · exact hv.1 he
      · exact h.2.2 i h3 h2
    refine TotP.pos (show (j : Int) < (s.size : Int) by omega) ?_
    refine TotP.ite (fun h0 => ?_) (fun h0 => ?_)
    · refine TotP.pos (show 0 ≤ (j : Int) by omega) ?_
      obtain rfl : j = 0 := by omega
      refine TotP.bind (tv_rlower _) (fun u hu => TotP.ite (fun he => ?_) (fun he => TotP.now ⟨(fun h => by cases h), fun h => absurd (hu.2 (h.2.1 rfl)) he⟩))
      exact TotP.bind (tv_rtail _) (fun v hv => next v hv (fun _ => hu.1 he))
    · refine TotP.pos (show 0 ≤ (j : Int) by omega) ?_
      exact TotP.bind (tv_rtail _) (fun v hv => next v hv (fun h => by omega))
  · rw [hv]
    exact ⟨fun h => ⟨h.1, h.2.1 rfl, fun i hi => h.2.2 i (Nat.zero_le _) hi⟩, fun h => ⟨h.1, fun _ => h.2.1, fun i _ hi => h.2.2 i hi⟩⟩
def RefP (b : Int) (x : S92) : Prop :=
  (x.f0 = 1 ∧ x.f2.toList = [] ∧ 0 ≤ x.f1 ∧ x.f1 < b) ∨ (x.f0 = 2 ∧ SymP x.f2 ∧ x.f1 = 0) ∨ (x.f0 = 3 ∧ x.f2.toList = [] ∧ 0 ≤ x.f1 ∧ x.f1 ≤ 1439999999) ∨ (x.f0 = 4 ∧ x.f2.toList = [] ∧ 0 ≤ x.f1 ∧ x.f1 ≤ 1099511627776)
theorem tv_freference (x : S92) (b : Int) (h : x.f2.size < 4398046511104) : TotP (fun k => formula_reference.f k x.f0 x.f1 x.f2 b) (fun v => v = true ↔ RefP b x) := by
  unfold formula_reference.f RefP
  refine TotP.ite (fun h1 => ?_) (fun h1 => TotP.ite (fun h2 => ?_) (fun h2 => TotP.ite (fun h3 => ?_) (fun h3 => TotP.ite (fun h4 => ?_) (fun h4 => TotP.now (by simp [h1, h2, h3, h4])))))
  · refine TotP.ite (fun h5 => TotP.ite (fun h6 => TotP.now ?_) (fun h6 => TotP.now ?_)) (fun h5 => TotP.now ?_) <;> simp_all <;> omega
  · refine TotP.ite (fun h5 => TotP.bind (tv_fsymbol _ h) (fun v hv => TotP.now ?_)) (fun h5 => TotP.now ?_) <;> simp_all <;> omega
  · refine TotP.ite (fun h5 => TotP.ite (fun h6 => TotP.now ?_) (fun h6 => TotP.now ?_)) (fun h5 => TotP.now ?_) <;> simp_all <;> omega
  · refine TotP.ite (fun h5 => TotP.ite (fun h6 => TotP.now ?_) (fun h6 => TotP.now ?_)) (fun h5 => TotP.now ?_) <;> simp_all <;> omega
theorem tv_rreference (x : S92) (b : Int) (h : x.f2.size < 4398046511104) : TotP (fun k => pentaglotref22_Reference.f k x.f0 x.f1 x.f2 b) (fun v => v = true ↔ RefP b x) := by
  unfold pentaglotref22_Reference.f RefP
  refine TotP.ite (fun h1 => ?_) (fun h1 => TotP.ite (fun h2 => ?_) (fun h2 => TotP.ite (fun h3 => ?_) (fun h3 => TotP.ite (fun h4 => ?_) (fun h4 => TotP.now (by simp [h1, h2, h3, h4])))))
  · refine TotP.ite (fun h5 => TotP.ite (fun h6 => TotP.now ?_) (fun h6 => TotP.now ?_)) (fun h5 => TotP.now ?_) <;> simp_all <;> omega
  · refine TotP.bind (tv_rsymbol _ h) (fun v hv => TotP.ite (fun h5 => TotP.now ?_) (fun h5 => TotP.now ?_)) <;> simp_all
  · refine TotP.ite (fun h5 => TotP.ite (fun h6 => TotP.now ?_) (fun h6 => TotP.now ?_)) (fun h5 => TotP.now ?_) <;> simp_all <;> omega
  · refine TotP.ite (fun h5 => TotP.ite (fun h6 => TotP.now ?_) (fun h6 => TotP.now ?_)) (fun h5 => TotP.now ?_) <;> simp_all <;> omega
theorem loopA {α : Type} (l : List α) (p : α → Prop) (Q : Prop) (F : Int → Nat → Option Bool) (g : α → Nat → Option Bool) (kid : ∀ x ∈ l, TotP (g x) (fun v => v = true ↔ p x)) (fin : TotP (F (l.length : Int)) (fun v => v = true ↔ Q))
    (more : ∀ (j : Nat) (h : j < l.length) k, F (j : Int) (k + 1) = (g l[j] k).bind fun v => if v = true then F ((j + 1 : Nat) : Int) k else some false) : TotP (F 0) (fun v => v = true ↔ (∀ x ∈ l, p x) ∧ Q) := by
  refine TotP.weak (loopV (σ := Unit) l.length (fun _ => F) (fun _ j v => v = true ↔ (∀ x ∈ l.drop j, p x) ∧ Q) (fun _ => TotP.weak fin (fun v hv => ?_)) (fun _ j hj ih => ?_) ()) (fun v hv => ?_)
  · rw [hv, List.drop_length]; simp
  · refine TotP.step (fun k => more j hj k) (TotP.bind (kid _ (List.getElem_mem hj)) (fun a ha => ?_))
    rw [List.drop_eq_getElem_cons hj, List.forall_mem_cons]
    refine TotP.ite (fun he => TotP.weak (ih ()) (fun v hv => ?_)) (fun he => TotP.now ⟨(fun h => by cases h), fun h => absurd (ha.2 h.1.1) he⟩)
    rw [hv]
    simp [ha.1 he]
  · rw [hv, List.drop_zero]
def MomP (a : Int) : Prop := -1 ≤ a ∧ a ≤ 1439999999
theorem tv_fmoment (a : Int) : TotP (fun _ => formula_moment.f a) (fun v => v = true ↔ MomP a) := by
  unfold formula_moment.f MomP
  refine TotP.ite (fun h => TotP.now (by simp; omega)) (fun h => TotP.now (by simp; omega))
theorem tv_rmoment (a : Int) : TotP (fun _ => pentaglotref22_moment.f a) (fun v => v = true ↔ MomP a) := tv_fmoment a
def AtomP (b : Int) (t : S32) : Prop := (∀ x ∈ t.f2, RefP b x) ∧ t.f5.length = 0 ∧ 1 ≤ t.f2.length ∧ t.f2.length ≤ 3 ∧ SymP t.f1
def OpP (b : Int) (t : S32) : Prop :=
  if t.f0 = 1 ∨ t.f0 = 2 then t.f5.length = 0 else if t.f0 = 3 then AtomP b t else if t.f0 = 4 ∨ t.f0 = 11 ∨ t.f0 = 12 then t.f5.length = 1 else if t.f0 = 5 ∨ t.f0 = 6 then True else if t.f0 = 7 then t.f5.length = 2
  else if t.f0 = 8 ∨ t.f0 = 9 then t.f5.length = 1 ∧ SymP t.f1 else if t.f0 = 10 then t.f5.length = 1 ∧ MomP t.f3 ∧ MomP t.f4 else False
def NameP (t : S32) : Prop := t.f0 = 3 ∨ t.f0 = 8 ∨ t.f0 = 9 ∨ t.f1.toList = []
def FieldsP (b : Int) (t : S32) : Prop := (t.f0 = 10 ∨ (t.f3 = 0 ∧ t.f4 = 0)) ∧ (t.f0 = 3 ∨ t.f2.length = 0) ∧ NameP t ∧ OpP b t
theorem nameE {t : S32} (h3 : t.f0 ≠ 3) (h8 : ¬(t.f0 = 8 ∨ t.f0 = 9)) : NameP t ↔ t.f1.toList = [] := by
  unfold NameP
  exact ⟨fun h => by rcases h with h | h | h | h; exact absurd h h3; exact absurd (.inl h) h8; exact absurd (.inr h) h8; exact h, fun h => .inr (.inr (.inr h))⟩
section fields
variable (t : S32) (b : Int) (hb : bulk32 t < 4398046511104)
include hb
theorem pv_j7 (h12 : ¬(t.f0 = 1 ∨ t.f0 = 2)) (h3 : t.f0 ≠ 3) (h4 : ¬(t.f0 = 4 ∨ t.f0 = 11 ∨ t.f0 = 12)) (h5 : ¬(t.f0 = 5 ∨ t.f0 = 6)) (h7 : t.f0 ≠ 7) (x : Bool) (hx : x = true ↔ t.f0 = 8 ∨ t.f0 = 9) : TotP (fun k => formula_fields.j7 k t.f0 x t.f0 t.f1 t.f2 t.f3 t.f4 t.f5) (fun v => v = true ↔ OpP b t) := by
  unfold OpP
  rw [if_neg h12, if_neg h3, if_neg h4, if_neg h5, if_neg h7]
  refine TotP.step (fun _ => formula_fields.j7.eq_2 ..) ?_
  refine TotP.ite (fun hc => ?_) (fun hc => ?_)
  · rw [if_pos (hx.1 hc)]
    refine TotP.ite (fun h1 => TotP.bind (tv_fsymbol t.f1 (by have := size_name t; omega)) (fun v hv => TotP.now ?_)) (fun h1 => TotP.now ⟨(fun h => by cases h), fun h => by omega⟩)
    rw [hv]; exact ⟨fun h => ⟨by omega, h⟩, fun h => h.2⟩
  · rw [if_neg (fun h => hc (hx.2 h))]
    refine TotP.ite (fun h10 => ?_) (fun h10 => TotP.now (by rw [if_neg h10]; simp))
    rw [if_pos h10]
    refine TotP.ite (fun h1 => TotP.bind (tv_fmoment _) (fun v hv => TotP.ite (fun he => TotP.bind (tv_fmoment _) (fun w hw => TotP.now ?_)) (fun he => TotP.now ⟨(fun h => by cases h), fun h => absurd (hv.2 h.2.1) he⟩))) (fun h1 => TotP.now ⟨(fun h => by cases h), fun h => by omega⟩)
    rw [hw]; exact ⟨fun h => ⟨by omega, hv.1 he, h⟩, fun h => h.2.2⟩
theorem pv_j6 (h12 : ¬(t.f0 = 1 ∨ t.f0 = 2)) (h3 : t.f0 ≠ 3) (h4 : ¬(t.f0 = 4 ∨ t.f0 = 11 ∨ t.f0 = 12)) (x : Bool) (hx : x = true ↔ t.f0 = 5 ∨ t.f0 = 6) : TotP (fun k => formula_fields.j6 k t.f0 x t.f0 t.f1 t.f2 t.f3 t.f4 t.f5) (fun v => v = true ↔ OpP b t) := by
  refine TotP.step (fun _ => formula_fields.j6.eq_2 ..) ?_
  refine TotP.ite (fun hc => TotP.now ?_) (fun hc => ?_)
  · unfold OpP
    rw [if_neg h12, if_neg h3, if_neg h4, if_pos (hx.1 hc)]; simp
  · have h5 : ¬(t.f0 = 5 ∨ t.f0 = 6) := fun h => hc (hx.2 h)
    refine TotP.ite (fun h7 => TotP.now ?_) (fun h7 => ?_)
    · unfold OpP
      rw [if_neg h12, if_neg h3, if_neg h4, if_neg h5, if_pos h7]; simp; omega
    · refine TotP.ite (fun h8 => ?_) (fun h8 => ?_)
      · exact pv_j7 t b hb h12 h3 h4 h5 h7 _ (by simp [h8])
      · exact pv_j7 t b hb h12 h3 h4 h5 h7 _ (by simp [h8])
theorem pv_j5 (h12 : ¬(t.f0 = 1 ∨ t.f0 = 2)) (h3 : t.f0 ≠ 3) (x : Bool) (hx : x = true ↔ t.f0 = 4 ∨ t.f0 = 11 ∨ t.f0 = 12) : TotP (fun k => formula_fields.j5 k t.f0 x t.f0 t.f1 t.f2 t.f3 t.f4 t.f5) (fun v => v = true ↔ OpP b t) := by
  refine TotP.step (fun _ => formula_fields.j5.eq_2 ..) ?_
  refine TotP.ite (fun hc => TotP.now ?_) (fun hc => ?_)
  · unfold OpP
    rw [if_neg h12, if_neg h3, if_pos (hx.1 hc)]; simp; omega
  · have h4 : ¬(t.f0 = 4 ∨ t.f0 = 11 ∨ t.f0 = 12) := fun h => hc (hx.2 h)
    refine TotP.ite (fun h5 => ?_) (fun h5 => ?_)
    · exact pv_j6 t b hb h12 h3 h4 _ (by simp [h5])
    · exact pv_j6 t b hb h12 h3 h4 _ (by simp [h5])
theorem pv_l0 : TotP (fun k => formula_fields.l0 k b t.f2 (t.f2.length : Int) 0 t.f0 t.f1 t.f2 t.f3 t.f4 t.f5) (fun v => v = true ↔ AtomP b t) := by
  have ha := bulk_args t
  refine loopA t.f2 (RefP b) _ (fun i k => formula_fields.l0 k b t.f2 (t.f2.length : Int) i t.f0 t.f1 t.f2 t.f3 t.f4 t.f5) (fun x k => formula_reference.f k x.f0 x.f1 x.f2 b) (fun x hx => tv_freference x b (by have := size_arg hx; omega)) ?_ (fun j hj k => ?_)
  · refine TotP.step (fun _ => formula_fields.l0.eq_2 ..) ?_
    refine TotP.neg (by omega) ?_
    have no : ∀ {P : Prop}, ¬ P → TotP (fun _ => some false) (fun v => v = true ↔ P) := fun h => TotP.now ⟨(fun h => by cases h), fun h' => absurd h' h⟩
    refine TotP.ite (fun h1 => TotP.ite (fun h2 => TotP.ite (fun h3 => ?_) (fun h3 => no (by omega))) (fun h2 => no (by omega))) (fun h1 => no (by omega))
    refine TotP.bind (tv_fsymbol t.f1 (by have := size_name t; omega)) (fun v hv => TotP.now ?_)
    rw [hv]; exact ⟨fun h => ⟨by omega, by omega, by omega, h⟩, fun h => h.2.2.2⟩
  · rw [formula_fields.l0.eq_2, wj hj (by omega), rd92 hj, if_pos (by omega), if_pos (by omega), if_pos (by omega)]
theorem pv_j3 (x : Bool) (hx : x = true ↔ t.f0 = 1 ∨ t.f0 = 2) : TotP (fun k => formula_fields.j3 k b t.f0 x t.f0 t.f1 t.f2 t.f3 t.f4 t.f5) (fun v => v = true ↔ OpP b t) := by
  refine TotP.step (fun _ => formula_fields.j3.eq_2 ..) ?_
  refine TotP.ite (fun hc => TotP.now ?_) (fun hc => ?_)
  · unfold OpP
    rw [if_pos (hx.1 hc)]; simp
  · have h12 : ¬(t.f0 = 1 ∨ t.f0 = 2) := fun h => hc (hx.2 h)
    refine TotP.ite (fun h3 => ?_) (fun h3 => ?_)
    · unfold OpP
      rw [if_neg h12, if_pos h3]
      exact pv_l0 t b hb
    refine TotP.ite (fun h4 => ?_) (fun h4 => ?_)
    · exact pv_j5 t b hb h12 h3 _ (by simp [h4])
    · refine TotP.ite (fun h5 => ?_) (fun h5 => ?_)
      · exact pv_j5 t b hb h12 h3 _ (by simp [h5])
      · exact pv_j5 t b hb h12 h3 _ (by simp [h4, h5])
theorem pv_j2 (x : Bool) (hx : x = true ↔ ¬ NameP t) : TotP (fun k => formula_fields.j2 k b x t.f0 t.f1 t.f2 t.f3 t.f4 t.f5) (fun v => v = true ↔ NameP t ∧ OpP b t) := by
  refine TotP.step (fun _ => formula_fields.j2.eq_2 ..) ?_
  refine TotP.ite (fun hc => TotP.now ⟨(fun h => by cases h), fun h => absurd h.1 (hx.1 hc)⟩) (fun hc => ?_)
  have hn : NameP t := Classical.not_not.1 (fun h => hc (hx.2 h))
  have w : ∀ v, (v = true ↔ OpP b t) → (v = true ↔ NameP t ∧ OpP b t) := fun v hv => ⟨fun h => ⟨hn, hv.1 h⟩, fun h => hv.2 h.2⟩
  refine TotP.ite (fun h1 => ?_) (fun h1 => ?_)
  · exact TotP.weak (pv_j3 t b hb _ (by simp [h1])) w
  · exact TotP.weak (pv_j3 t b hb _ (by simp [h1])) w
theorem pv_j1 (x : Bool) (hx : x = true ↔ ¬ (t.f0 = 3 ∨ t.f2.length = 0)) : TotP (fun k => formula_fields.j1 k b x t.f0 t.f1 t.f2 t.f3 t.f4 t.f5) (fun v => v = true ↔ (t.f0 = 3 ∨ t.f2.length = 0) ∧ NameP t ∧ OpP b t) := by
  refine TotP.step (fun _ => formula_fields.j1.eq_2 ..) ?_
  refine TotP.ite (fun hc => TotP.now ⟨(fun h => by cases h), fun h => absurd h.1 (hx.1 hc)⟩) (fun hc => ?_)
  have hn : t.f0 = 3 ∨ t.f2.length = 0 := Classical.not_not.1 (fun h => hc (hx.2 h))
  have w : ∀ v, (v = true ↔ NameP t ∧ OpP b t) → (v = true ↔ (t.f0 = 3 ∨ t.f2.length = 0) ∧ NameP t ∧ OpP b t) := fun v hv => ⟨fun h => ⟨hn, hv.1 h⟩, fun h => hv.2 h.2⟩
  refine TotP.ite (fun h1 => TotP.weak (pv_j2 t b hb _ ?_) w) (fun h1 => ?_)
  · unfold NameP; simp [h1]
  · refine TotP.bind (tot_fbinds _) (fun u hu => TotP.ite (fun he => TotP.weak (pv_j2 t b hb _ ?_) w) (fun he => TotP.weak (pv_j2 t b hb _ ?_) w))
    · have hn : NameP t := by unfold NameP; rcases hu.1 he with h | h; exact .inr (.inl h); exact .inr (.inr (.inl h))
      exact ⟨(fun h => by cases h), fun h => absurd hn h⟩
    · have h89 : ¬(t.f0 = 8 ∨ t.f0 = 9) := fun h => he (hu.2 h)
      rw [bne_iff_ne, nameE h1 h89]
theorem pv_j0 (x : Bool) (hx : x = true ↔ ¬ (t.f0 = 10 ∨ (t.f3 = 0 ∧ t.f4 = 0))) : TotP (fun k => formula_fields.j0 k b x t.f0 t.f1 t.f2 t.f3 t.f4 t.f5) (fun v => v = true ↔ FieldsP b t) := by
  refine TotP.step (fun _ => formula_fields.j0.eq_2 ..) ?_
  refine TotP.ite (fun hc => TotP.now ⟨(fun h => by cases h), fun h => absurd h.1 (hx.1 hc)⟩) (fun hc => ?_)
  have hn : t.f0 = 10 ∨ (t.f3 = 0 ∧ t.f4 = 0) := Classical.not_not.1 (fun h => hc (hx.2 h))
  have w : ∀ v, (v = true ↔ (t.f0 = 3 ∨ t.f2.length = 0) ∧ NameP t ∧ OpP b t) → (v = true ↔ FieldsP b t) := fun v hv => ⟨fun h => ⟨hn, hv.1 h⟩, fun h => hv.2 h.2⟩
  refine TotP.ite (fun h1 => TotP.weak (pv_j1 t b hb _ ?_) w) (fun h1 => TotP.weak (pv_j1 t b hb _ ?_) w)
  · simp [h1]
  · rw [decide_eq_true_eq]; exact ⟨fun h h' => by omega, fun h => by omega⟩
theorem tv_ffields : TotP (fun k => formula_fields.f k t.f0 t.f1 t.f2 t.f3 t.f4 t.f5 b) (fun v => v = true ↔ FieldsP b t) := by
  unfold formula_fields.f
  refine TotP.ite (fun h1 => pv_j0 t b hb _ ?_) (fun h1 => TotP.ite (fun h2 => pv_j0 t b hb _ ?_) (fun h2 => pv_j0 t b hb _ ?_))
  · simp [h1]
  · simp [h1, h2]
  · simp [h1, h2]
end fields
section fields
variable (t : S32) (b : Int) (hb : bulk32 t < 4398046511104)
include hb
theorem rv_j5 (h12 : ¬(t.f0 = 1 ∨ t.f0 = 2)) (h3 : t.f0 ≠ 3) (h4 : ¬(t.f0 = 4 ∨ t.f0 = 11 ∨ t.f0 = 12)) (h5 : ¬(t.f0 = 5 ∨ t.f0 = 6)) (h7 : t.f0 ≠ 7) (x : Bool) (hx : x = true ↔ t.f0 = 8 ∨ t.f0 = 9) : TotP (fun k => pentaglotref22_fields.j5 k t.f0 x t.f0 t.f1 t.f2 t.f3 t.f4 t.f5) (fun v => v = true ↔ NameP t ∧ OpP b t) := by
  unfold OpP
  rw [if_neg h12, if_neg h3, if_neg h4, if_neg h5, if_neg h7]
  have no : ∀ {P : Prop}, ¬ P → TotP (fun _ => some false) (fun v => v = true ↔ P) := fun h => TotP.now ⟨(fun h => by cases h), fun h' => absurd h' h⟩
  refine TotP.step (fun _ => pentaglotref22_fields.j5.eq_2 ..) ?_
  refine TotP.ite (fun hc => ?_) (fun hc => ?_)
  · rw [if_pos (hx.1 hc)]
    have hn : NameP t := by unfold NameP; rcases hx.1 hc with h | h; exact .inr (.inl h); exact .inr (.inr (.inl h))
    refine TotP.bind (tv_rsymbol t.f1 (by have := size_name t; omega)) (fun v hv => TotP.ite (fun he => TotP.now ?_) (fun he => no (fun h => he (hv.2 h.2.2))))
    rw [beq_iff_eq]; exact ⟨fun h => ⟨hn, by omega, hv.1 he⟩, fun h => by have := h.2.1; omega⟩
  · have h8 : ¬(t.f0 = 8 ∨ t.f0 = 9) := fun h => hc (hx.2 h)
    rw [if_neg h8, nameE h3 h8]
    refine TotP.ite (fun h10 => ?_) (fun h10 => no (by rw [if_neg h10]; exact fun h => h.2))
    rw [if_pos h10]
    refine TotP.ite (fun he => TotP.ite (fun h1 => TotP.bind (tv_rmoment _) (fun v hv => TotP.ite (fun hm => TotP.bind (tv_rmoment _) (fun w hw => TotP.now ?_)) (fun hm => no (fun h => hm (hv.2 h.2.2.1))))) (fun h1 => no (fun h => h1 (by have := h.2.1; omega)))) (fun he => no (fun h => he h.1))
    rw [hw]; exact ⟨fun h => ⟨he, by omega, hv.1 hm, h⟩, fun h => h.2.2.2⟩
theorem rv_j4 (h12 : ¬(t.f0 = 1 ∨ t.f0 = 2)) (h3 : t.f0 ≠ 3) (h4 : ¬(t.f0 = 4 ∨ t.f0 = 11 ∨ t.f0 = 12)) (x : Bool) (hx : x = true ↔ t.f0 = 5 ∨ t.f0 = 6) : TotP (fun k => pentaglotref22_fields.j4 k t.f0 x t.f0 t.f1 t.f2 t.f3 t.f4 t.f5) (fun v => v = true ↔ NameP t ∧ OpP b t) := by
  refine TotP.step (fun _ => pentaglotref22_fields.j4.eq_2 ..) ?_
  refine TotP.ite (fun hc => TotP.now ?_) (fun hc => ?_)
  · have h5 := hx.1 hc
    rw [nameE h3 (by omega)]
    unfold OpP
    rw [if_neg h12, if_neg h3, if_neg h4, if_pos h5]; simp
  · have h5 : ¬(t.f0 = 5 ∨ t.f0 = 6) := fun h => hc (hx.2 h)
    refine TotP.ite (fun h7 => ?_) (fun h7 => ?_)
    · rw [nameE h3 (by omega)]
      unfold OpP
      rw [if_neg h12, if_neg h3, if_neg h4, if_neg h5, if_pos h7]
      exact TotP.ite (fun he => TotP.now (by rw [beq_iff_eq]; exact ⟨fun h => ⟨he, by omega⟩, fun h => by have := h.2; omega⟩)) (fun he => TotP.now ⟨(fun h => by cases h), fun h => absurd h.1 he⟩)
    · refine TotP.ite (fun h8 => ?_) (fun h8 => ?_)
      · exact rv_j5 t b hb h12 h3 h4 h5 h7 _ (by simp [h8])
      · exact rv_j5 t b hb h12 h3 h4 h5 h7 _ (by simp [h8])
theorem rv_j3 (h12 : ¬(t.f0 = 1 ∨ t.f0 = 2)) (h3 : t.f0 ≠ 3) (x : Bool) (hx : x = true ↔ t.f0 = 4 ∨ t.f0 = 11 ∨ t.f0 = 12) : TotP (fun k => pentaglotref22_fields.j3 k t.f0 x t.f0 t.f1 t.f2 t.f3 t.f4 t.f5) (fun v => v = true ↔ NameP t ∧ OpP b t) := by
  refine TotP.step (fun _ => pentaglotref22_fields.j3.eq_2 ..) ?_
  refine TotP.ite (fun hc => ?_) (fun hc => ?_)
  · have h4 := hx.1 hc
    rw [nameE h3 (by omega)]
    unfold OpP
    rw [if_neg h12, if_neg h3, if_pos h4]
    exact TotP.ite (fun he => TotP.now (by rw [beq_iff_eq]; exact ⟨fun h => ⟨he, by omega⟩, fun h => by have := h.2; omega⟩)) (fun he => TotP.now ⟨(fun h => by cases h), fun h => absurd h.1 he⟩)
  · have h4 : ¬(t.f0 = 4 ∨ t.f0 = 11 ∨ t.f0 = 12) := fun h => hc (hx.2 h)
    refine TotP.ite (fun h5 => ?_) (fun h5 => ?_)
    · exact rv_j4 t b hb h12 h3 h4 _ (by simp [h5])
    · exact rv_j4 t b hb h12 h3 h4 _ (by simp [h5])
theorem rv_l0 : TotP (fun k => pentaglotref22_fields.l0 k b 0 t.f0 t.f1 t.f2 t.f3 t.f4 t.f5) (fun v => v = true ↔ AtomP b t) := by
  have ha := bulk_args t
  refine TotP.weak (loopA t.f2 (RefP b) (SymP t.f1 ∧ 1 ≤ t.f2.length ∧ t.f2.length ≤ 3 ∧ t.f5.length = 0) (fun i k => pentaglotref22_fields.l0 k b i t.f0 t.f1 t.f2 t.f3 t.f4 t.f5) (fun x k => pentaglotref22_Reference.f k x.f0 x.f1 x.f2 b) (fun x hx => tv_rreference x b (by have := size_arg hx; omega)) ?_ (fun j hj k => ?_)) (fun v hv => ?_)
  · refine TotP.step (fun _ => pentaglotref22_fields.l0.eq_2 ..) ?_
    refine TotP.neg (by omega) ?_
    have no : ∀ {P : Prop}, ¬ P → TotP (fun _ => some false) (fun v => v = true ↔ P) := fun h => TotP.now ⟨(fun h => by cases h), fun h' => absurd h' h⟩
    refine TotP.bind (tv_rsymbol t.f1 (by have := size_name t; omega)) (fun v hv => TotP.ite (fun he => ?_) (fun he => no (fun h => he (hv.2 h.1))))
    refine TotP.ite (fun h1 => TotP.ite (fun h2 => TotP.now ?_) (fun h2 => no (by omega))) (fun h1 => no (by omega))
    rw [beq_iff_eq]; exact ⟨fun h => ⟨hv.1 he, by omega, by omega, by omega⟩, fun h => by have := h.2.2.2; omega⟩
  · rw [pentaglotref22_fields.l0.eq_2, wj hj (by omega), rd92 hj, if_pos (by omega), if_pos (by omega)]
  · rw [hv]; unfold AtomP
    exact ⟨fun h => ⟨h.1, h.2.2.2.2, h.2.2.1, h.2.2.2.1, h.2.1⟩, fun h => ⟨h.1, h.2.2.2.2, h.2.2.1, h.2.2.2.1, h.2.1⟩⟩
theorem rv_j1 (x : Bool) (hx : x = true ↔ t.f0 = 1 ∨ t.f0 = 2) : TotP (fun k => pentaglotref22_fields.j1 k b t.f0 x t.f0 t.f1 t.f2 t.f3 t.f4 t.f5) (fun v => v = true ↔ NameP t ∧ OpP b t) := by
  refine TotP.step (fun _ => pentaglotref22_fields.j1.eq_2 ..) ?_
  refine TotP.ite (fun hc => ?_) (fun hc => ?_)
  · have h12 := hx.1 hc
    rw [nameE (by omega) (by omega)]
    unfold OpP
    rw [if_pos h12]
    exact TotP.ite (fun he => TotP.now (by rw [beq_iff_eq]; exact ⟨fun h => ⟨he, by omega⟩, fun h => by have := h.2; omega⟩)) (fun he => TotP.now ⟨(fun h => by cases h), fun h => absurd h.1 he⟩)
  · have h12 : ¬(t.f0 = 1 ∨ t.f0 = 2) := fun h => hc (hx.2 h)
    refine TotP.ite (fun h3 => TotP.weak (rv_l0 t b hb) (fun v hv => ?_)) (fun h3 => ?_)
    · unfold OpP NameP
      rw [if_neg h12, if_pos h3, hv]
      exact ⟨fun h => ⟨.inl h3, h⟩, fun h => h.2⟩
    refine TotP.ite (fun h4 => ?_) (fun h4 => ?_)
    · exact rv_j3 t b hb h12 h3 _ (by simp [h4])
    · refine TotP.ite (fun h5 => ?_) (fun h5 => ?_)
      · exact rv_j3 t b hb h12 h3 _ (by simp [h5])
      · exact rv_j3 t b hb h12 h3 _ (by simp [h4, h5])
theorem rv_j0 (x : Bool) (hx : x = true ↔ ¬ ((t.f0 = 10 ∨ (t.f3 = 0 ∧ t.f4 = 0)) ∧ (t.f0 = 3 ∨ t.f2.length = 0))) : TotP (fun k => pentaglotref22_fields.j0 k b x t.f0 t.f1 t.f2 t.f3 t.f4 t.f5) (fun v => v = true ↔ FieldsP b t) := by
  refine TotP.step (fun _ => pentaglotref22_fields.j0.eq_2 ..) ?_
  refine TotP.ite (fun hc => TotP.now ⟨(fun h => by cases h), fun h => absurd ⟨h.1, h.2.1⟩ (hx.1 hc)⟩) (fun hc => ?_)
  have hn := Classical.not_not.1 (fun h => hc (hx.2 h))
  have w : ∀ v, (v = true ↔ NameP t ∧ OpP b t) → (v = true ↔ FieldsP b t) := fun v hv => ⟨fun h => ⟨hn.1, hn.2, hv.1 h⟩, fun h => hv.2 h.2.2⟩
  refine TotP.ite (fun h1 => TotP.weak (rv_j1 t b hb _ ?_) w) (fun h1 => TotP.weak (rv_j1 t b hb _ ?_) w)
  · simp [h1]
  · simp [h1]
theorem tv_rfields : TotP (fun k => pentaglotref22_fields.f k t.f0 t.f1 t.f2 t.f3 t.f4 t.f5 b) (fun v => v = true ↔ FieldsP b t) := by
  unfold pentaglotref22_fields.f
  have j0 := rv_j0 t b hb
  refine TotP.ite (fun h3 => ?_) (fun h3 => TotP.ite (fun h0 => j0 _ ?_) (fun h0 => ?_))
  · refine TotP.ite (fun h1 => j0 _ ?_) (fun h1 => TotP.ite (fun h2 => j0 _ ?_) (fun h2 => j0 _ ?_))
    · exfalso; omega
    · simp [h1, h2, h3]
    · simp [h1, h2, h3]
  · simp only [true_iff]; intro h; have := h.2; omega
  · have h0' : t.f2.length = 0 := by omega
    refine TotP.ite (fun h1 => j0 _ ?_) (fun h1 => TotP.ite (fun h2 => j0 _ ?_) (fun h2 => j0 _ ?_))
    · simp [h1, h0']
    · simp [h1, h2, h0']
    · simp [h1, h2, h0']
end fields
def insN (t : S32) (b : Int) : Int := if t.f0 = 8 ∨ t.f0 = 9 then b + 1 else b
def FormP : Nat → Int → S32 → Prop
  | 0, _, _ => False
  | n + 1, b, t => FieldsP b t ∧ ∀ x ∈ t.f5, FormP n (insN t b) x
theorem tv_fformed : ∀ (n : Nat) (b : Int) (t : S32), bulk32 t < n → n ≤ 2199023255552 → 0 ≤ b → b + n ≤ 4398046511104 → TotP (fun k => formula_formed.f k t.f0 t.f1 t.f2 t.f3 t.f4 t.f5 b) (fun v => v = true ↔ FormP n b t)
  | 0, b, t, h, _, _, _ => absurd h (Nat.not_lt_zero _)
  | n + 1, b, t, h, hn, hb0, hbn => by
    have hk := bulk_kids t
    rw [FormP]
    refine TotP.step (fun _ => formula_formed.f.eq_2 ..) ?_
    refine TotP.bind (tv_ffields t b (by omega)) (fun v hv => TotP.ite (fun he => ?_) (fun he => TotP.now ⟨(fun h => by cases h), fun h => absurd (hv.2 h.1) he⟩))
    have kids : ∀ c : Int, c = insN t b → TotP (fun k => formula_formed.j0 k c t.f0 t.f1 t.f2 t.f3 t.f4 t.f5) (fun v => v = true ↔ FieldsP b t ∧ ∀ x ∈ t.f5, FormP n (insN t b) x) := by
      intro c hc
      have hc0 : 0 ≤ c ∧ c ≤ b + 1 := by rw [hc]; unfold insN; split <;> omega
      rw [← hc]
      refine TotP.step (fun _ => formula_formed.j0.eq_2 ..) ?_
      refine TotP.weak (loopA t.f5 (FormP n c) True (fun i k => formula_formed.l0 k c t.f5 (t.f5.length : Int) i) (fun x k => formula_formed.f k x.f0 x.f1 x.f2 x.f3 x.f4 x.f5 c) (fun x hx => tv_fformed n c x (by have := bulk_mem hx; omega) (by omega) hc0.1 (by omega)) ?_ (fun j hj k => ?_)) (fun w hw => ?_)
      · refine TotP.step (fun _ => formula_formed.l0.eq_2 ..) (TotP.neg (by omega) (TotP.now (by simp)))
      · rw [formula_formed.l0.eq_2, wj hj (by omega), rd32 hj, if_pos (by omega), if_pos (by omega), if_pos (by omega)]
      · rw [hw]; exact ⟨fun h => ⟨hv.1 he, h.1⟩, fun h => ⟨h.2, trivial⟩⟩
    refine TotP.bind (tot_fbinds t.f0) (fun u hu => TotP.ite (fun hut => kids _ ?_) (fun hut => kids _ ?_))
    · unfold insN; rw [if_pos (hu.1 hut), w64 (by omega) (by omega)]
    · unfold insN; rw [if_neg (fun h => hut (hu.2 h))]
theorem inside_f (t : S32) (b : Int) (h0 : 0 ≤ b) (h1 : b ≤ 4398046511104) : pentaglotref22_inside.f t.f0 t.f1 t.f2 t.f3 t.f4 t.f5 b = some (insN t b) := by
  unfold pentaglotref22_inside.f pentaglotref22_Binds.f insN
  by_cases h8 : t.f0 = 8
  · simp only [if_pos h8, Option.bind_some, if_true, if_pos (Or.inl h8), w64 (x := b + 1) (by omega) (by omega)]
  · by_cases h9 : t.f0 = 9
    · rw [if_neg h8, h9, Option.bind_some, if_pos (show ((9 : Int) == 9) = true from rfl), if_pos (by omega), w64 (by omega) (by omega)]
    · have : (t.f0 == 9) = false := by simpa using h9
      simp only [if_neg h8, Option.bind_some, this, Bool.false_eq_true, if_false, h8, h9, or_self]
theorem tv_rformed : ∀ (n : Nat) (b : Int) (t : S32), bulk32 t < n → n ≤ 2199023255552 → 0 ≤ b → b + n ≤ 4398046511104 → TotP (fun k => pentaglotref22_Formed.f k t.f0 t.f1 t.f2 t.f3 t.f4 t.f5 b) (fun v => v = true ↔ FormP n b t)
  | 0, b, t, h, _, _, _ => absurd h (Nat.not_lt_zero _)
  | n + 1, b, t, h, hn, hb0, hbn => by
    have hk := bulk_kids t
    have hc0 : 0 ≤ insN t b ∧ insN t b ≤ b + 1 := by unfold insN; split <;> omega
    rw [FormP]
    refine TotP.step (fun _ => pentaglotref22_Formed.f.eq_2 ..) ?_
    refine TotP.weak (loopA t.f5 (FormP n (insN t b)) (FieldsP b t) (fun i k => pentaglotref22_Formed.l0 k b i t.f0 t.f1 t.f2 t.f3 t.f4 t.f5) (fun x k => pentaglotref22_Formed.f k x.f0 x.f1 x.f2 x.f3 x.f4 x.f5 (insN t b)) (fun x hx => tv_rformed n _ x (by have := bulk_mem hx; omega) (by omega) hc0.1 (by omega)) ?_ (fun j hj k => ?_)) (fun w hw => ?_)
    · refine TotP.step (fun _ => pentaglotref22_Formed.l0.eq_2 ..) (TotP.neg (by omega) ?_)
      exact TotP.bind (tv_rfields t b (by omega)) (fun v hv => TotP.now hv)
    · rw [pentaglotref22_Formed.l0.eq_2, wj hj (by omega), rd32 hj, if_pos (by omega), if_pos (by omega), inside_f t b hb0 (by omega), Option.bind_some]
    · rw [hw]; exact ⟨fun h => ⟨h.2, h.1⟩, fun h => ⟨h.2, h.1⟩⟩
def ValidP (n : Nat) (t : S32) : Prop := sizeN t ≤ 200 ∧ depthN t ≤ 32 ∧ FormP n 0 t
theorem tv_fvalid (n : Nat) (t : S32) (h : bulk32 t < n) (hn : n ≤ 2199023255552) : TotP (fun k => formula_Valid.f k t.f0 t.f1 t.f2 t.f3 t.f4 t.f5 0) (fun v => v = true ↔ ValidP n t) := by
  unfold formula_Valid.f formula_limits.f ValidP
  have lim : TotP (fun k => (formula_Size.f k t.f0 t.f1 t.f2 t.f3 t.f4 t.f5).bind fun a => if a ≤ 200 then (formula_Depth.f k t.f0 t.f1 t.f2 t.f3 t.f4 t.f5).bind fun c => some (decide (c ≤ 32)) else some false) (fun v => v = true ↔ sizeN t ≤ 200 ∧ depthN t ≤ 32) := by
    refine TotP.bind (tv_fsize n t h (by omega)) (fun a ha => TotP.ite (fun h1 => TotP.bind (tv_fdepth n t h (by omega)) (fun c hc => TotP.now ?_)) (fun h1 => TotP.now ⟨(fun h => by cases h), fun h => by omega⟩))
    rw [decide_eq_true_eq]; omega
  refine TotP.bind lim (fun a ha => TotP.ite (fun h1 => ?_) (fun h1 => TotP.now ⟨(fun h => by cases h), fun h => absurd (ha.2 ⟨h.1, h.2.1⟩) h1⟩))
  rw [show mn (mx 0 0) 1099511627776 = 0 by decide]
  refine TotP.bind (tv_fformed n 0 t h hn (by omega) (by omega)) (fun v hv => TotP.now ?_)
  rw [hv]; exact ⟨fun h => ⟨(ha.1 h1).1, (ha.1 h1).2, h⟩, fun h => h.2.2⟩
theorem tv_rvalid (n : Nat) (t : S32) (h : bulk32 t < n) (hn : n ≤ 2199023255552) : TotP (fun k => pentaglotref22_Valid.f k t.f0 t.f1 t.f2 t.f3 t.f4 t.f5 0) (fun v => v = true ↔ ValidP n t) := by
  unfold pentaglotref22_Valid.f ValidP
  refine TotP.neg (by omega) ?_
  refine TotP.step (fun _ => pentaglotref22_Valid.j0.eq_2 ..) (TotP.neg (by omega) ?_)
  refine TotP.bind (tv_rsize n t h (by omega)) (fun a ha => TotP.ite (fun h1 => TotP.bind (tv_rdepth n t h (by omega)) (fun c hc => TotP.ite (fun h2 => TotP.bind (tv_rformed n 0 t h hn (by omega) (by omega)) (fun v hv => TotP.now ?_)) (fun h2 => TotP.now ⟨(fun h => by cases h), fun h => by omega⟩))) (fun h1 => TotP.now ⟨(fun h => by cases h), fun h => by omega⟩))
  rw [hv]; exact ⟨fun h => ⟨by omega, by omega, h⟩, fun h => h.2.2⟩
theorem ev_rind (ds : List S73) (ts : List Int) (id : Int) (hl : ds.length < 4398046511104) (s : ByteArray) : Ev (fun k => pentaglotref26_Individuals.f k ds ts id s) (indN ds s) := by
  refine ind_loop (F := fun i k => pentaglotref26_Individuals.l0 k s i ds ts id) ds s (fun j hj => ?_) (fun j hj => ⟨fun he => ?_, fun he r hr => ?_⟩)
  · exact Ev.step (f := fun _ => some ([], false)) (fun k => by rw [pentaglotref26_Individuals.l0, if_neg (by omega)]) (Ev.now _)
  · exact Ev.step (f := fun _ => some (ds[j].f1, true)) (fun k => by rw [pentaglotref26_Individuals.l0, if_pos (by omega), if_pos (by omega), rd73 hj, if_pos he]) (Ev.now _)
  · exact Ev.step (fun k => by rw [pentaglotref26_Individuals.l0, if_pos (by omega), if_pos (by omega), rd73 hj, if_neg he, wj hj (by omega)]) hr
def itvL (ts : List Int) (f t : Int) : List Int × Bool := match momL ts f t with | some l => (l, true) | none => ([], false)
theorem itvL_eq (ts : List Int) (f t : Int) : itvL ts f t = (fromN (itv ts f t).1 ((itv ts f t).2.1 - (itv ts f t).1).toNat, (itv ts f t).2.2) := by
  unfold itvL momL itv
  cases hf : endN ts 0 f with
  | none => rfl
  | some a =>
    cases ht : endN ts (2 * (ts.length : Int) + 1) t with
    | none => rfl
    | some b =>
      have hm : mx a b = if a < b then b else a := rfl
      dsimp only
      rw [hm]
      split
      · rfl
      · rw [show (b - a).toNat = 0 by omega, show (a - a).toNat = 0 by omega]
theorem itv_bd (ts : List Int) (f t : Int) : 0 ≤ (itv ts f t).1 ∧ (itv ts f t).1 ≤ (itv ts f t).2.1 ∧ (itv ts f t).2.1 ≤ 2 * (ts.length : Int) + 1 := by
  unfold itv
  cases hf : endN ts 0 f with
  | none => exact ⟨by simp, by simp, by simp; omega⟩
  | some a =>
    cases ht : endN ts (2 * (ts.length : Int) + 1) t with
    | none => exact ⟨by simp, by simp, by simp; omega⟩
    | some c =>
      have h1 := endN_bound hf (by omega)
      have h2 := endN_bound ht (by omega)
      have hm : mx a c = if a < c then c else a := rfl
      dsimp only
      rw [hm]
      split <;> omega
theorem tv_rbinds (a : Int) : TotP (fun _ => pentaglotref22_Binds.f a) (fun v => v = true ↔ a = 8 ∨ a = 9) := tot_fbinds a
theorem mn_eq (a b : Int) : mn a b = if b < a then b else a := rfl
section world
variable (ds : List S73) (ts : List Int) (id : Int)
def KnownP : Nat → S32 → Prop
  | 0, _ => False
  | n + 1, t => (t.f0 = 10 → (itv ts t.f3 t.f4).2.2 = true) ∧ (t.f0 = 8 ∨ t.f0 = 9 → (indN ds t.f1).2 = true) ∧ ∀ x ∈ t.f5, KnownP n x
def facN (t : S32) : Int :=
  if t.f0 = 8 ∨ t.f0 = 9 then ((indN ds t.f1).1.length : Int) else if t.f0 = 10 then (itv ts t.f3 t.f4).2.1 - (itv ts t.f3 t.f4).1 else if t.f0 = 11 ∨ t.f0 = 12 then id else 1
def sumW (w : S32 → Int) : Int → List S32 → Int
  | s, [] => s
  | s, x :: l => sumW w (mn (s + w x) 1048577) l
def workN : Nat → S32 → Int
  | 0, _ => 0
  | n + 1, t => mn (1 + sumW (workN n) 0 t.f5 * facN ds ts id t) 1048577
variable (fs : List S62) (hd : ds.length < 4398046511104) (hdn : ∀ d ∈ ds, d.f1.length ≤ 1048576) (hl : ts.length ≤ 1048576) (ha : ts.Pairwise (· < ·)) (hid : id = 1 ∨ id = 2)
theorem sumW_bd (w : S32 → Int) : ∀ (l : List S32) (s : Int), (∀ x ∈ l, 0 ≤ w x ∧ w x ≤ 1048577) → 0 ≤ s → s ≤ 1048577 → 0 ≤ sumW w s l ∧ sumW w s l ≤ 1048577
  | [], s, _, h0, h1 => ⟨h0, h1⟩
  | x :: l, s, hw, h0, h1 => by
    have hx := hw x (by simp)
    rw [sumW]
    refine sumW_bd w l _ (fun y hy => hw y (by simp [hy])) ?_ ?_ <;> rw [mn_eq] <;> split <;> omega
include hdn hl hid
theorem facN_bd (t : S32) : 0 ≤ facN ds ts id t ∧ facN ds ts id t ≤ 2097153 := by
  have hi := itv_bd ts t.f3 t.f4
  unfold facN
  split
  · refine ⟨by omega, ?_⟩
    unfold indN
    cases hf : ds.find? fun d => d.f0.toList == t.f1.toList with
    | none => simp
    | some d => have := hdn d (List.mem_of_find?_eq_some hf); dsimp only; omega
  · repeat' split
    all_goals omega
theorem prod_bd {s a : Int} (h0 : 0 ≤ s) (h1 : s ≤ 1048577) (a0 : 0 ≤ a) (a1 : a ≤ 2097153) : 0 ≤ s * a ∧ s * a ≤ 1048577 * 2097153 :=
  ⟨Int.mul_nonneg h0 a0, Int.mul_le_mul h1 a1 a0 (by omega)⟩
theorem workN_bd : ∀ (n : Nat) (t : S32), 0 ≤ workN ds ts id n t ∧ workN ds ts id n t ≤ 1048577
  | 0, t => ⟨by rw [workN]; omega, by rw [workN]; omega⟩
  | n + 1, t => by
    have hs := sumW_bd (workN ds ts id n) t.f5 0 (fun x _ => workN_bd n x) (by omega) (by omega)
    have hf := facN_bd ds ts id hdn hl hid t
    have hp := prod_bd ds ts id hdn hl hid hs.1 hs.2 hf.1 hf.2
    rw [workN, mn_eq]
    split <;> omega
include hd
theorem tv_rwork : ∀ (n : Nat) (t : S32), bulk32 t < n → n ≤ 2199023255552 → TotP (fun k => pentaglotref26_Work.f k ds ts id fs t.f0 t.f1 t.f2 t.f3 t.f4 t.f5) (fun r => r = workN ds ts id n t)
  | 0, t, h, _ => absurd h (Nat.not_lt_zero _)
  | n + 1, t, h, hn => by
    have hk := bulk_kids t
    have hf := facN_bd ds ts id hdn hl hid t
    have wb := workN_bd ds ts id hdn hl hid n
    rw [workN]
    refine TotP.step (fun _ => pentaglotref26_Work.f.eq_2 ..) ?_
    have fin : ∀ s a : Int, 0 ≤ s → s ≤ 1048577 → a = facN ds ts id t → mn 1048577 (wrap64 (1 + wrap64 (s * a))) = mn (1 + s * facN ds ts id t) 1048577 := by
      intro s a h0 h1 e
      subst e
      have hp := prod_bd ds ts id hdn hl hid h0 h1 hf.1 hf.2
      rw [w64 (x := s * facN ds ts id t) (by omega) (by omega), w64 (by omega) (by omega), mn_eq, mn_eq]
      split <;> split <;> omega
    have j1 : ∀ (s : Int) (x : Bool), (x = true ↔ t.f0 = 8 ∨ t.f0 = 9) → TotP (fun k => pentaglotref26_Work.j1 k s 1 t.f0 x ds ts id fs t.f0 t.f1 t.f2 t.f3 t.f4 t.f5) (fun r => 0 ≤ s → s ≤ 1048577 → r = mn (1 + s * facN ds ts id t) 1048577) := by
      intro s x hx
      refine TotP.step (fun _ => pentaglotref26_Work.j1.eq_2 ..) ?_
      refine TotP.ite (fun hc => ?_) (fun hc => ?_)
      · refine TotP.bind (Q := fun r => r = indN ds t.f1) ⟨_, ev_rind ds ts id hd _, rfl⟩ (fun r hr => TotP.now (fun h0 h1 => fin s _ h0 h1 ?_))
        unfold facN; rw [if_pos (hx.1 hc), hr]
      have h89 : ¬(t.f0 = 8 ∨ t.f0 = 9) := fun h => hc (hx.2 h)
      refine TotP.ite (fun h10 => ?_) (fun h10 => TotP.ite (fun h11 => TotP.now (fun h0 h1 => fin s _ h0 h1 ?_)) (fun h11 => TotP.ite (fun h12 => TotP.now (fun h0 h1 => fin s _ h0 h1 ?_)) (fun h12 => TotP.now (fun h0 h1 => fin s _ h0 h1 ?_))))
      · refine TotP.bind (Q := fun r => r = itvL ts t.f3 t.f4) ⟨_, ev_refInterval ds ts id (by omega) _ _, rfl⟩ (fun r hr => TotP.now (fun h0 h1 => fin s _ h0 h1 ?_))
        have := itv_bd ts t.f3 t.f4
        unfold facN; rw [if_neg h89, if_pos h10, hr, itvL_eq, fromN_len]; omega
      · unfold facN; rw [if_neg h89, if_neg h10, if_pos (.inl h11)]
      · unfold facN; rw [if_neg h89, if_neg h10, if_pos (.inr h12)]
      · unfold facN; rw [if_neg h89, if_neg h10, if_neg (by omega)]
    refine TotP.weak (loopV t.f5.length (fun (s : Int) i k => pentaglotref26_Work.l0 k s i ds ts id fs t.f0 t.f1 t.f2 t.f3 t.f4 t.f5) (fun s j r => 0 ≤ s → s ≤ 1048577 → r = mn (1 + sumW (workN ds ts id n) s (t.f5.drop j) * facN ds ts id t) 1048577) (fun s => ?_) (fun s j hj ih => ?_) 0) (fun r hr => ?_)
    · rw [List.drop_length]
      refine TotP.step (fun _ => pentaglotref26_Work.l0.eq_2 ..) (TotP.neg (by omega) ?_)
      exact TotP.ite (fun h8 => j1 s _ (by simp [h8])) (fun h8 => j1 s _ (by simp [h8]))
    · refine TotP.step (fun _ => pentaglotref26_Work.l0.eq_2 ..) (TotP.pos (by omega) (TotP.pos (by omega) ?_))
      rw [wj hj (by omega), rd32 hj, List.drop_eq_getElem_cons hj]
      refine TotP.bind (tv_rwork n t.f5[j] (by have := bulk_mem (List.getElem_mem hj); omega) (by omega)) (fun a ha => TotP.weak (ih _) (fun r hr h0 h1 => ?_))
      have hb := wb t.f5[j]
      have e : mn 1048577 (wrap64 (s + a)) = mn (s + workN ds ts id n t.f5[j]) 1048577 := by
        rw [ha, w64 (by omega) (by omega), mn_eq, mn_eq]; split <;> split <;> omega
      rw [e] at hr
      rw [sumW]
      exact hr (by rw [mn_eq]; split <;> omega) (by rw [mn_eq]; split <;> omega)
    · exact hr (by omega) (by omega)
include ha
theorem tv_fwork : ∀ (n : Nat) (t : S32), bulk32 t < n → n ≤ 2199023255552 → TotP (fun k => evaluate_work.f k ds ts id t.f0 t.f1 t.f2 t.f3 t.f4 t.f5) (fun r => r.1 = workN ds ts id n t ∧ (r.2 = true ↔ KnownP ds ts n t))
  | 0, t, h, _ => absurd h (Nat.not_lt_zero _)
  | n + 1, t, h, hn => by
    have hk := bulk_kids t
    have hf := facN_bd ds ts id hdn hl hid t
    have wb := workN_bd ds ts id hdn hl hid n
    rw [workN, KnownP]
    refine TotP.step (fun _ => evaluate_work.f.eq_2 ..) ?_
    have j1 : ∀ (a : Int) (x : Bool), a = facN ds ts id t → (x = true ↔ (t.f0 = 10 → (itv ts t.f3 t.f4).2.2 = true) ∧ (t.f0 = 8 ∨ t.f0 = 9 → (indN ds t.f1).2 = true)) →
        TotP (fun k => evaluate_work.j1 k a x ds ts id t.f0 t.f1 t.f2 t.f3 t.f4 t.f5) (fun r => r.1 = mn (1 + sumW (workN ds ts id n) 0 t.f5 * facN ds ts id t) 1048577 ∧ (r.2 = true ↔ (t.f0 = 10 → (itv ts t.f3 t.f4).2.2 = true) ∧ (t.f0 = 8 ∨ t.f0 = 9 → (indN ds t.f1).2 = true) ∧ ∀ x ∈ t.f5, KnownP ds ts n x)) := by
      intro a x e hx
      subst e
      refine TotP.step (fun _ => evaluate_work.j1.eq_2 ..) ?_
      refine TotP.weak (loopV t.f5.length (fun (s : Bool × Int) i k => evaluate_work.l0 k (facN ds ts id t) s.1 s.2 t.f5 (t.f5.length : Int) i ds ts id) (fun s j r => 0 ≤ s.2 → s.2 ≤ 1048577 → r.1 = mn (1 + sumW (workN ds ts id n) s.2 (t.f5.drop j) * facN ds ts id t) 1048577 ∧ (r.2 = true ↔ s.1 = true ∧ ∀ x ∈ t.f5.drop j, KnownP ds ts n x)) (fun s => ?_) (fun s j hj ih => ?_) (x, 0)) (fun r hr => ?_)
      · rw [List.drop_length]
        refine TotP.step (fun _ => evaluate_work.l0.eq_2 ..) (TotP.neg (by omega) (TotP.now (fun h0 h1 => ⟨?_, by simp⟩)))
        have hp := prod_bd ds ts id hdn hl hid h0 h1 hf.1 hf.2
        rw [sumW, w64 (x := s.2 * facN ds ts id t) (by omega) (by omega), w64 (by omega) (by omega)]
      · refine TotP.step (fun _ => evaluate_work.l0.eq_2 ..) (TotP.pos (by omega) (TotP.pos (by omega) (TotP.pos (by omega) ?_)))
        rw [wj hj (by omega), rd32 hj, List.drop_eq_getElem_cons hj, List.forall_mem_cons, sumW]
        refine TotP.bind (tv_fwork n t.f5[j] (by have := bulk_mem (List.getElem_mem hj); omega) (by omega)) (fun c hc => ?_)
        have hb := wb t.f5[j]
        have e : ∀ s : Int, 0 ≤ s → s ≤ 1048577 → mn (wrap64 (s + c.1)) 1048577 = mn (s + workN ds ts id n t.f5[j]) 1048577 := fun s h0 h1 => by rw [hc.1, w64 (by omega) (by omega)]
        have b2 : ∀ s : Int, 0 ≤ s → 0 ≤ mn (s + workN ds ts id n t.f5[j]) 1048577 ∧ mn (s + workN ds ts id n t.f5[j]) 1048577 ≤ 1048577 := fun s h0 => by rw [mn_eq]; split <;> omega
        refine TotP.ite (fun hs => TotP.weak (ih (c.2, mn (wrap64 (s.2 + c.1)) 1048577)) (fun r hr h0 h1 => ?_)) (fun hs => TotP.weak (ih (false, mn (wrap64 (s.2 + c.1)) 1048577)) (fun r hr h0 h1 => ?_))
        · dsimp only at hr
          rw [e _ h0 h1] at hr
          obtain ⟨h3, h4⟩ := hr (b2 _ h0).1 (b2 _ h0).2
          refine ⟨h3, h4.trans ?_⟩
          rw [hc.2]; simp [hs]
        · dsimp only at hr
          rw [e _ h0 h1] at hr
          obtain ⟨h3, h4⟩ := hr (b2 _ h0).1 (b2 _ h0).2
          refine ⟨h3, h4.trans ?_⟩
          simp [hs]
      · rw [List.drop_zero] at hr
        obtain ⟨h1, h2⟩ := hr (Int.le_refl 0) (show (0 : Int) ≤ 1048577 by omega)
        refine ⟨h1, h2.trans ?_⟩
        rw [hx]; exact and_assoc
    have j0 : ∀ (x : Bool), (x = true ↔ t.f0 = 8 ∨ t.f0 = 9) → TotP (fun k => evaluate_work.j0 k 1 true t.f0 x ds ts id t.f0 t.f1 t.f2 t.f3 t.f4 t.f5) (fun r => r.1 = mn (1 + sumW (workN ds ts id n) 0 t.f5 * facN ds ts id t) 1048577 ∧ (r.2 = true ↔ (t.f0 = 10 → (itv ts t.f3 t.f4).2.2 = true) ∧ (t.f0 = 8 ∨ t.f0 = 9 → (indN ds t.f1).2 = true) ∧ ∀ x ∈ t.f5, KnownP ds ts n x)) := by
      intro x hx
      refine TotP.step (fun _ => evaluate_work.j0.eq_2 ..) ?_
      refine TotP.ite (fun hc => ?_) (fun hc => ?_)
      · have h89 := hx.1 hc
        refine TotP.bind (Q := fun r => r = indN ds t.f1) ⟨_, ev_ind ds ts id hd _, rfl⟩ (fun r hr => j1 _ _ ?_ ?_)
        · unfold facN; rw [if_pos h89, hr]
        · rw [hr]; exact ⟨fun h => ⟨fun _ => by omega, fun _ => h⟩, fun h => h.2 h89⟩
      have h89 : ¬(t.f0 = 8 ∨ t.f0 = 9) := fun h => hc (hx.2 h)
      refine TotP.ite (fun h10 => ?_) (fun h10 => ?_)
      · refine TotP.bind (Q := fun r => r = itv ts t.f3 t.f4) ⟨_, ev_interval ds id ha (by omega) _ _, rfl⟩ (fun r hr => j1 _ _ ?_ ?_)
        · have := itv_bd ts t.f3 t.f4
          unfold facN; rw [if_neg h89, if_pos h10, hr, w64 (by omega) (by omega)]
        · rw [hr]; exact ⟨fun h => ⟨fun _ => h, fun h => absurd h h89⟩, fun h => h.1 h10⟩
      have tt : (true = true ↔ (t.f0 = 10 → (itv ts t.f3 t.f4).2.2 = true) ∧ (t.f0 = 8 ∨ t.f0 = 9 → (indN ds t.f1).2 = true)) := ⟨fun _ => ⟨fun h => absurd h h10, fun h => absurd h h89⟩, fun _ => rfl⟩
      refine TotP.ite (fun h11 => j1 _ _ ?_ tt) (fun h11 => TotP.ite (fun h12 => j1 _ _ ?_ tt) (fun h12 => j1 _ _ ?_ tt))
      · unfold facN; rw [if_neg h89, if_neg h10, if_pos (.inl h11)]
      · unfold facN; rw [if_neg h89, if_neg h10, if_pos (.inr h12)]
      · unfold facN; rw [if_neg h89, if_neg h10, if_neg (by omega)]
    exact TotP.ite (fun h8 => j0 _ (by simp [h8])) (fun h8 => j0 _ (by simp [h8]))
omit hdn hid ha in
theorem tv_known : ∀ (n : Nat) (t : S32), bulk32 t < n → n ≤ 2199023255552 → TotP (fun k => pentaglotref26_known.f k ds ts id fs t.f0 t.f1 t.f2 t.f3 t.f4 t.f5) (fun v => v = true ↔ KnownP ds ts n t)
  | 0, t, h, _ => absurd h (Nat.not_lt_zero _)
  | n + 1, t, h, hn => by
    have hk := bulk_kids t
    rw [KnownP]
    have j1 : TotP (fun k => pentaglotref26_known.j1 k ds ts id fs t.f0 t.f1 t.f2 t.f3 t.f4 t.f5) (fun v => v = true ↔ ∀ x ∈ t.f5, KnownP ds ts n x) := by
      refine TotP.step (fun _ => pentaglotref26_known.j1.eq_2 ..) ?_
      refine TotP.weak (loopA t.f5 (KnownP ds ts n) True (fun i k => pentaglotref26_known.l0 k i ds ts id fs t.f0 t.f1 t.f2 t.f3 t.f4 t.f5) (fun x k => pentaglotref26_known.f k ds ts id fs x.f0 x.f1 x.f2 x.f3 x.f4 x.f5) (fun x hx => tv_known n x (by have := bulk_mem hx; omega) (by omega)) ?_ (fun j hj k => ?_)) (fun w hw => by rw [hw]; simp)
      · refine TotP.step (fun _ => pentaglotref26_known.l0.eq_2 ..) (TotP.neg (by omega) (TotP.now (by simp)))
      · rw [pentaglotref26_known.l0.eq_2, wj hj (by omega), rd32 hj, if_pos (by omega), if_pos (by omega)]
    have no : ∀ {P : Prop}, ¬ P → TotP (fun _ => some false) (fun v => v = true ↔ P) := fun h => TotP.now ⟨(fun h => by cases h), fun h' => absurd h' h⟩
    have j0 : (t.f0 = 10 → (itv ts t.f3 t.f4).2.2 = true) → TotP (fun k => pentaglotref26_known.j0 k ds ts id fs t.f0 t.f1 t.f2 t.f3 t.f4 t.f5) (fun v => v = true ↔ (t.f0 = 10 → (itv ts t.f3 t.f4).2.2 = true) ∧ (t.f0 = 8 ∨ t.f0 = 9 → (indN ds t.f1).2 = true) ∧ ∀ x ∈ t.f5, KnownP ds ts n x) := by
      intro h10
      refine TotP.step (fun _ => pentaglotref26_known.j0.eq_2 ..) ?_
      refine TotP.bind (tv_rbinds _) (fun u hu => TotP.ite (fun he => ?_) (fun he => TotP.weak j1 (fun v hv => ?_)))
      · refine TotP.bind (Q := fun r => r = indN ds t.f1) ⟨_, ev_rind ds ts id hd _, rfl⟩ (fun r hr => TotP.ite (fun h1 => TotP.weak j1 (fun v hv => ?_)) (fun h1 => no (fun h => h1 (by rw [hr]; exact h.2.1 (hu.1 he)))))
        rw [hv]; exact ⟨fun h => ⟨h10, fun _ => by rw [← hr]; exact h1, h⟩, fun h => h.2.2⟩
      · rw [hv]; exact ⟨fun h => ⟨h10, fun h => absurd (hu.2 h) he, h⟩, fun h => h.2.2⟩
    refine TotP.step (fun _ => pentaglotref26_known.f.eq_2 ..) ?_
    refine TotP.ite (fun h10 => ?_) (fun h10 => j0 (fun h => absurd h h10))
    refine TotP.bind (Q := fun r => r = itvL ts t.f3 t.f4) ⟨_, ev_refInterval ds ts id (by omega) _ _, rfl⟩ (fun r hr => TotP.ite (fun h1 => j0 (fun _ => ?_)) (fun h1 => no (fun h => h1 ?_)))
    · rw [hr, itvL_eq] at h1; exact h1
    · rw [hr, itvL_eq]; exact h.1 h10
end world
section world
variable (ds : List S73) (ts : List Int) (id : Int) (fs : List S62) (hw : ∀ d ∈ ds, wf73 d) (hd : ds.length < 4398046511104) (hdn : ∀ d ∈ ds, d.f1.length ≤ 1048576) (hl : ts.length ≤ 1048576) (hfw : ∀ x ∈ fs, wf62 x) (hfl : fs.length < 4398046511104)
def FitP (n : Nat) (t : S32) : Prop := properB ds ts id = true ∧ ValidP n t ∧ KnownP ds ts n t
def errQ (n : Nat) (t : S32) : Int := if 1048576 < workN ds ts id n t then 2 else 0
include hw hd hdn hl hfw hfl
theorem tv_load (n : Nat) (t : S32) (h : bulk32 t < n) (hn : n ≤ 2199023255552) : TotP (fun k => loadG k ds ts id fs t) (fun e => (FitP ds ts id n t → e = errQ ds ts id n t) ∧ (¬ FitP ds ts id n t → e = 1)) := by
  have no : ¬ FitP ds ts id n t → TotP (fun _ => some (1 : Int)) (fun e => (FitP ds ts id n t → e = errQ ds ts id n t) ∧ (¬ FitP ds ts id n t → e = 1)) := fun h => TotP.now ⟨fun h' => absurd h' h, fun _ => rfl⟩
  have hdn' : ∀ d ∈ ds, d.f1.length < 4398046511104 := fun d hd => by have := hdn d hd; omega
  unfold loadG
  rw [proper_f hw hd (by omega)]
  simp only [Option.bind_some]
  refine TotP.ite (fun hp => ?_) (fun hp => no (fun h => hp h.1))
  obtain ⟨ha, hid⟩ := proper_id ds ts id fs hw hd hdn' (by omega) hfw hfl hp
  refine TotP.bind (tv_fvalid n t h hn) (fun v hv => TotP.ite (fun he => ?_) (fun he => no (fun h => he (hv.2 h.2.1))))
  refine TotP.bind (tv_fwork ds ts id hd hdn hl ha hid n t h hn) (fun w hw' => TotP.ite (fun he2 => ?_) (fun he2 => no (fun h => he2 (hw'.2.2 h.2.2))))
  refine TotP.pos ⟨facts_ok ds ts fs hw hd hdn' (by omega) hfw hfl, hfl⟩ (TotP.now ⟨fun _ => ?_, fun h => absurd ⟨hp, hv.1 he, hw'.2.1 he2⟩ h⟩)
  rw [hw'.1]; rfl
theorem tv_fits (n : Nat) (t : S32) (h : bulk32 t < n) (hn : n ≤ 2199023255552) : TotP (fun k => pentaglotref26_Fits.f k ds ts id fs t.f0 t.f1 t.f2 t.f3 t.f4 t.f5) (fun v => v = true ↔ FitP ds ts id n t) := by
  have no : ¬ FitP ds ts id n t → TotP (fun _ => some false) (fun v => v = true ↔ FitP ds ts id n t) := fun h => TotP.now ⟨(fun h => by cases h), fun h' => absurd h' h⟩
  unfold pentaglotref26_Fits.f
  refine TotP.bind (Q := fun r => r = properB ds ts id) ⟨_, ev_proper ds ts id hd (by omega), rfl⟩ (fun p hp => TotP.ite (fun h1 => ?_) (fun h1 => no (fun h => h1 (hp.trans h.1))))
  refine TotP.bind (tv_rvalid n t h hn) (fun v hv => TotP.ite (fun h2 => ?_) (fun h2 => no (fun h => h2 (hv.2 h.2.1))))
  refine TotP.bind (tv_known ds ts id fs hd hl n t h hn) (fun w hw' => TotP.now ?_)
  rw [hw']; exact ⟨fun h => ⟨hp.symm.trans h1, hv.1 h2, h⟩, fun h => h.2.2⟩
end world
theorem good_fields {b : Int} {t : S32} (h : FieldsP b t) : FieldsOk b t := by
  obtain ⟨_, _, _, ho⟩ := h
  unfold OpP at ho
  refine ⟨fun h3 => ?_, fun h1 => ?_, fun h7 => ?_⟩
  · rw [if_neg (by omega), if_pos h3] at ho
    refine ⟨ho.2.2.2.1, fun x hx h1 => ?_⟩
    rcases ho.1 x hx with h | h | h | h
    · exact h.2.2
    · omega
    · omega
    · omega
  · repeat' split at ho
    all_goals first | omega | exact ho.1 | exact ho
  · repeat' split at ho
    all_goals first | omega | exact ho
theorem good_form : ∀ (n : Nat) (b : Int) (t : S32), FormP n b t → Good n b t
  | 0, _, _, h => h
  | n + 1, b, t, h => ⟨good_fields h.1, fun x hx => good_form n _ x (h.2 x hx)⟩
section world
variable (ds : List S73) (ts : List Int) (id : Int) (fs : List S62) (hw : ∀ d ∈ ds, wf73 d) (hd : ds.length < 4398046511104) (hdn : ∀ d ∈ ds, d.f1.length ≤ 1048576) (hl : ts.length ≤ 1048576) (hfw : ∀ x ∈ fs, wf62 x) (hfl : fs.length < 4398046511104)
include hw hd hdn hl hfw hfl
theorem tv_truth0 (n : Nat) (t : S32) (h : bulk32 t < n) (hn : n ≤ 2199023255552) (hwt : wf32 t) (hf : FitP ds ts id n t) (co m : Int) (hc : okI co = true) (hm : okI m = true) : Tot (fun k => truthG ds ts id fs k t [] co m) :=
  tot_truth0 ds ts id fs hw hd (fun d hd => by have := hdn d hd; omega) (by omega) hfw hfl n t h hn hwt hf.1 (good_form n 0 t hf.2.1.2.2) co m hc hm
theorem tv_at (n : Nat) (t : S32) (h : bulk32 t < n) (hn : n ≤ 2199023255552) (hwt : wf32 t) (co m : Int) (hc : okI co = true) (hm : okI m = true) :
    TotP (fun k => evaluate_At.f k ds ts id fs t.f0 t.f1 t.f2 t.f3 t.f4 t.f5 co m) (fun r => (FitP ds ts id n t ∧ insideB ts id co m = true → r.2 = errQ ds ts id n t) ∧ (¬ (FitP ds ts id n t ∧ insideB ts id co m = true) → r.2 = 1) ∧ (r.2 ≠ 0 → r.1 = false) ∧ (r.2 = 0 → FitP ds ts id n t ∧ Ev (fun k => truthG ds ts id fs k t [] co m) r.1)) := by
  have e0 : (⟨t.f0, t.f1, t.f2, t.f3, t.f4, t.f5⟩ : S32) = t := by cases t; rfl
  unfold evaluate_At.f
  rw [e0]
  refine TotP.bind (tv_load ds ts id fs hw hd hdn hl hfw hfl n t h hn) (fun e he => ?_)
  refine TotP.ite (fun h1 => TotP.now ⟨fun h => ?_, fun _ => rfl, fun _ => rfl, fun h => by cases h⟩) (fun h1 => ?_)
  · have := he.1 h.1
    unfold errQ at this ⊢
    split at this <;> omega
  have hf : FitP ds ts id n t := Classical.not_not.1 (fun h => h1 (he.2 h))
  refine TotP.pos (by omega) ?_
  refine TotP.ite (fun hi => ?_) (fun hi => TotP.now ⟨fun h => absurd h.2 hi, fun _ => rfl, fun _ => rfl, fun h => by cases h⟩)
  refine TotP.ite (fun h0 => ?_) (fun h0 => TotP.now ⟨fun _ => he.1 hf, fun h => absurd ⟨hf, hi⟩ h, fun _ => rfl, fun h => absurd h h0⟩)
  obtain ⟨r, hr, _⟩ := tv_truth0 ds ts id fs hw hd hdn hl hfw hfl n t h hn hwt hf co m hc hm
  exact TotP.bind (Q := fun x => x = r) ⟨r, hr, rfl⟩ (fun x hx => by subst hx; exact TotP.now ⟨fun _ => h0.symm.trans (he.1 hf), fun h => absurd ⟨hf, hi⟩ h, fun h => absurd rfl h, fun _ => ⟨hf, hr⟩⟩)
end world
end Go.Proofs.YtolpckflofjfhaaDoor.En
