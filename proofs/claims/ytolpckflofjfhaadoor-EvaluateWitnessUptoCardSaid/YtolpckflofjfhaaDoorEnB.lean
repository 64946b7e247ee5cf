import Derived.Test.YtolpckflofjfhaaDoorPx0
import Derived.Test.YtolpckflofjfhaaDoorPx1
import Derived.Test.YtolpckflofjfhaaDoorPx3
import Derived.Test.YtolpckflofjfhaaDoorPx4
import Derived.Test.YtolpckflofjfhaaDoorPx5
import Derived.Test.YtolpckflofjfhaaDoorPx8
import Derived.Test.YtolpckflofjfhaaDoorPx9
import Derived.Test.YtolpckflofjfhaaDoorPx10
import Derived.Test.YtolpckflofjfhaaDoorPx12
import Derived.Test.YtolpckflofjfhaaDoorPx16
import Derived.Test.YtolpckflofjfhaaDoorPx17
import Derived.Test.YtolpckflofjfhaaDoorPx21
import Derived.Test.YtolpckflofjfhaaDoorPx22
import Derived.Test.YtolpckflofjfhaaDoorEnA
import Derived.Lib.ItoaLen
import Derived.OpenShut
namespace Go.Proofs.YtolpckflofjfhaaDoor.En
set_option linter.unusedVariables false
set_option linter.unusedSimpArgs false
set_option linter.unusedSectionVars false
open Go.RowKit Go.Proofs.YtolpckflofjfhaaDoor.P Go.Proofs.YtolpckflofjfhaaDoorW.PrintWords Go.Proofs.YtolpckflofjfhaaDoorW.PrintLast
theorem rd32 {l : List S32} {j : Nat} (h : j < l.length) : rd_T32 l (j : Int) = l[j] := by
  unfold rd_T32
  rw [Int.toNat_natCast, List.getD_eq_getElem?_getD, List.getElem?_eq_getElem h]
  rfl
theorem rd92 {l : List S92} {j : Nat} (h : j < l.length) : rd_T92 l (j : Int) = l[j] := by
  unfold rd_T92
  rw [Int.toNat_natCast, List.getD_eq_getElem?_getD, List.getElem?_eq_getElem h]
  rfl
theorem bulk_lenL : ∀ c : List S32, c.length ≤ bulkL32 c
  | [] => by simp
  | x :: l => by
    have := bulk_lenL l
    have h2 : 1 ≤ bulk32 x := by cases x; rw [bulk32]; omega
    rw [bulkL32, List.length_cons]
    omega
theorem bulk_kids (t : S32) : t.f5.length ≤ bulk32 t := by
  obtain ⟨a, b, c, d, e, f⟩ := t
  have := bulk_lenL f
  rw [bulk32]
  dsimp only
  omega
theorem bulk_args (t : S32) : t.f2.length ≤ bulk32 t := by
  obtain ⟨a, b, c, d, e, f⟩ := t
  have := len_le bulk92 (fun x => by unfold bulk92; omega) c
  rw [bulk32]
  dsimp only
  omega
theorem bulk_memL : ∀ {c : List S32} {x : S32}, x ∈ c → bulk32 x ≤ bulkL32 c
  | y :: l, x, h => by
    rw [bulkL32]
    rcases List.mem_cons.1 h with rfl | h
    · omega
    · have := bulk_memL h
      omega
theorem bulk_mem {t x : S32} (h : x ∈ t.f5) : bulk32 x < bulk32 t := by
  obtain ⟨a, b, c, d, e, f⟩ := t
  have := bulk_memL (c := f) h
  rw [bulk32]
  omega
theorem wf_kid {t x : S32} (h : wf32 t) (hx : x ∈ t.f5) : wf32 x := by
  obtain ⟨a, b, c, d, e, f⟩ := t
  rw [wf32] at h
  exact (wfL32_iff f).1 h.2.2.2.2.2 x hx
def TotP {α : Type} (g : Nat → Option α) (P : α → Prop) : Prop := ∃ r, Ev g r ∧ P r
abbrev Tot {α : Type} (g : Nat → Option α) : Prop := TotP g (fun _ => True)
theorem TotP.now {α : Type} {P : α → Prop} {r : α} (h : P r) : TotP (fun _ => some r) P := ⟨r, Ev.now r, h⟩
theorem TotP.bind {α β : Type} {g : Nat → Option α} {f : Nat → α → Option β} {Q : α → Prop} {P : β → Prop} (h : TotP g Q) (k : ∀ a, Q a → TotP (fun n => f n a) P) : TotP (fun n => (g n).bind (f n)) P := by
  obtain ⟨a, ha, hq⟩ := h
  obtain ⟨r, hr, hp⟩ := k a hq
  exact ⟨r, Ev.bind ha hr, hp⟩
theorem TotP.all {α β : Type} {g : Nat → Option α} {f : Nat → α → Option β} {P : β → Prop} (h : Tot g) (k : ∀ a, TotP (fun n => f n a) P) : TotP (fun n => (g n).bind (f n)) P := TotP.bind h (fun a _ => k a)
theorem TotP.step {α : Type} {g f : Nat → Option α} {P : α → Prop} (h : ∀ k, g (k + 1) = f k) (k : TotP f P) : TotP g P := by
  obtain ⟨r, hr, hp⟩ := k
  exact ⟨r, Ev.step h hr, hp⟩
theorem TotP.ite {α : Type} {c : Prop} [Decidable c] {g f : Nat → Option α} {P : α → Prop} (h : c → TotP f P) (k : ¬c → TotP g P) : TotP (fun n => if c then f n else g n) P := by
  by_cases hc : c
  · simp only [if_pos hc]; exact h hc
  · simp only [if_neg hc]; exact k hc
theorem TotP.pos {α : Type} {c : Prop} [Decidable c] {g f : Nat → Option α} {P : α → Prop} (hc : c) (h : TotP f P) : TotP (fun n => if c then f n else g n) P := TotP.ite (fun _ => h) (fun h => absurd hc h)
theorem TotP.neg {α : Type} {c : Prop} [Decidable c] {g f : Nat → Option α} {P : α → Prop} (hc : ¬c) (h : TotP g P) : TotP (fun n => if c then f n else g n) P := TotP.ite (fun h => absurd h hc) (fun _ => h)
theorem TotP.weak {α : Type} {g : Nat → Option α} {P Q : α → Prop} (h : TotP g P) (k : ∀ a, P a → Q a) : TotP g Q := by
  obtain ⟨r, hr, hp⟩ := h
  exact ⟨r, hr, k r hp⟩
theorem TotP.tot {α : Type} {g : Nat → Option α} {P : α → Prop} (h : TotP g P) : Tot g := h.weak (fun _ _ => trivial)
theorem TotP.none_ {α : Type} {P : α → Prop} (h : False) : TotP (fun _ => (none : Option α)) P := h.elim
theorem wj {j n : Nat} (h : j < n) (hn : n ≤ 4398046511104) : wrap64 ((j : Int) + 1) = ((j + 1 : Nat) : Int) := by rw [w64 (by omega) (by omega)]; rfl
theorem loopT {σ β : Type} {P : β → Prop} (n : Nat) (F : σ → Int → Nat → Option β)
    (fin : ∀ s, TotP (F s (n : Int)) P)
    (more : ∀ s (j : Nat), j < n → (∀ s', TotP (F s' ((j + 1 : Nat) : Int)) P) → TotP (F s (j : Int)) P) : ∀ s, TotP (F s 0) P := by
  have : ∀ m j, n - j = m → j ≤ n → ∀ s, TotP (F s (j : Int)) P := by
    intro m
    induction m with
    | zero =>
      intro j hj hjn s
      obtain rfl : j = n := by omega
      exact fin s
    | succ m ih => exact fun j hj hjn s => more s j (by omega) (fun s' => ih (j + 1) (by omega) (by omega) s')
  exact fun s => this _ 0 rfl (Nat.zero_le _) s
theorem tn_ {α : Type} {r : α} : TotP (fun _ => some r) (fun _ => True) := TotP.now trivial
theorem ti_ {α : Type} {c : Prop} [Decidable c] {g f : Nat → Option α} {P : α → Prop} (h : c → TotP f P) (k : ¬c → TotP g P) : TotP (fun n => if c then f n else g n) P := TotP.ite h k
theorem tot_rsize : ∀ (n : Nat) (t : S32), bulk32 t < n → n ≤ 4398046511104 → Tot (fun k => pentaglotref22_Size.f k t.f0 t.f1 t.f2 t.f3 t.f4 t.f5)
  | 0, t, h, _ => absurd h (Nat.not_lt_zero _)
  | n + 1, t, h, hn => by
    have hk := bulk_kids t
    refine TotP.step (fun _ => pentaglotref22_Size.f.eq_2 ..) ?_
    refine loopT t.f5.length (fun (s : Int) i k => pentaglotref22_Size.l0 k s i t.f0 t.f1 t.f2 t.f3 t.f4 t.f5) (fun s => ?_) (fun s j hj ih => ?_) 1
    · refine TotP.step (fun _ => pentaglotref22_Size.l0.eq_2 ..) ?_
      repeat' first | with_reducible exact tn_ | with_reducible refine ti_ (fun _ => ?_) (fun _ => ?_) | (exfalso; omega)
    · refine TotP.step (fun _ => pentaglotref22_Size.l0.eq_2 ..) ?_
      rw [wj hj (by omega), rd32 hj]
      have kid := tot_rsize n t.f5[j] (by have := bulk_mem (List.getElem_mem hj); omega) (by omega)
      repeat' first | with_reducible exact tn_ | with_reducible refine ti_ (fun _ => ?_) (fun _ => ?_) | (exfalso; omega) | with_reducible refine TotP.all kid (fun _ => ?_) | exact ih _
theorem tot_rdepth : ∀ (n : Nat) (t : S32), bulk32 t < n → n ≤ 4398046511104 → Tot (fun k => pentaglotref22_Depth.f k t.f0 t.f1 t.f2 t.f3 t.f4 t.f5)
  | 0, t, h, _ => absurd h (Nat.not_lt_zero _)
  | n + 1, t, h, hn => by
    have hk := bulk_kids t
    refine TotP.step (fun _ => pentaglotref22_Depth.f.eq_2 ..) ?_
    refine loopT t.f5.length (fun (s : Int) i k => pentaglotref22_Depth.l0 k s i t.f0 t.f1 t.f2 t.f3 t.f4 t.f5) (fun s => ?_) (fun s j hj ih => ?_) 0
    · refine TotP.step (fun _ => pentaglotref22_Depth.l0.eq_2 ..) ?_
      repeat' first | with_reducible exact tn_ | with_reducible refine ti_ (fun _ => ?_) (fun _ => ?_) | (exfalso; omega)
    · refine TotP.step (fun _ => pentaglotref22_Depth.l0.eq_2 ..) ?_
      rw [wj hj (by omega), rd32 hj]
      have kid := tot_rdepth n t.f5[j] (by have := bulk_mem (List.getElem_mem hj); omega) (by omega)
      repeat' first | with_reducible exact tn_ | with_reducible refine ti_ (fun _ => ?_) (fun _ => ?_) | (exfalso; omega) | with_reducible refine TotP.all kid (fun _ => ?_) | exact ih _
theorem loopI {β : Type} (n : Nat) (F : Int → Nat → Option β) (P : Nat → β → Prop)
    (fin : ∀ j, n ≤ j → TotP (F (j : Int)) (P j))
    (more : ∀ j, j < n → TotP (F ((j + 1 : Nat) : Int)) (P (j + 1)) → TotP (F (j : Int)) (P j)) : ∀ j : Nat, TotP (F (j : Int)) (P j) := by
  have : ∀ m j, n - j = m → TotP (F (j : Int)) (P j) := by
    intro m
    induction m with
    | zero => exact fun j hj => fin j (by omega)
    | succ m ih => exact fun j hj => more j (by omega) (ih (j + 1) (by omega))
  exact fun j => this _ j rfl
theorem pos_of_ne {s : ByteArray} (h : ¬ s.toList = []) : 0 < (s.size : Int) := by
  rw [Lib.toList_data] at h
  have : s.data.size ≠ 0 := fun hz => h (by rw [Array.eq_empty_of_size_eq_zero hz])
  have h2 : s.size = s.data.size := rfl
  omega
theorem tot_rlower (a : Int) : Tot (fun _ => pentaglotref22_lower.f a) := by
  unfold pentaglotref22_lower.f
  repeat' first | with_reducible exact tn_ | with_reducible refine ti_ (fun _ => ?_) (fun _ => ?_) | (exfalso; omega)
theorem tot_rtail (a : Int) : Tot (fun _ => pentaglotref22_tail.f a) := by
  unfold pentaglotref22_tail.f
  repeat' first | with_reducible exact tn_ | with_reducible refine ti_ (fun _ => ?_) (fun _ => ?_) | (exfalso; omega) | with_reducible refine TotP.all (tot_rlower _) (fun _ => ?_)
theorem tot_rsymbol (s : ByteArray) (h : s.size < 4398046511104) : Tot (fun k => pentaglotref22_Symbol.f k s) := by
  refine loopI s.size (fun i k => pentaglotref22_Symbol.l0 k s i) (fun _ _ => True) (fun j hj => ?_) (fun j hj ih => ?_) 0
  · refine TotP.step (fun _ => pentaglotref22_Symbol.l0.eq_2 ..) ?_
    refine TotP.neg (show ¬ (j : Int) < (s.size : Int) by omega) ?_
    exact TotP.now trivial
  · refine TotP.step (fun _ => pentaglotref22_Symbol.l0.eq_2 ..) ?_
    rw [wj hj (by omega)]
    repeat' first | with_reducible exact tn_ | with_reducible refine ti_ (fun _ => ?_) (fun _ => ?_) | (exfalso; omega) | with_reducible refine TotP.all (tot_rlower _) (fun _ => ?_) | with_reducible refine TotP.all (tot_rtail _) (fun _ => ?_) | exact ih
def RefOk (b : Int) (x : S92) : Prop := x.f0 = 1 → 0 ≤ x.f1 ∧ x.f1 < b
theorem tot_rreference (x : S92) (b : Int) (h : x.f2.size < 4398046511104) : Tot (fun k => pentaglotref22_Reference.f k x.f0 x.f1 x.f2 b) := by
  unfold pentaglotref22_Reference.f
  repeat' first | with_reducible exact tn_ | with_reducible refine ti_ (fun _ => ?_) (fun _ => ?_) | (exfalso; omega) | with_reducible refine TotP.all (tot_rsymbol _ h) (fun _ => ?_)
theorem size_name (t : S32) : t.f1.size ≤ bulk32 t := by
  obtain ⟨a, b, c, d, e, f⟩ := t
  rw [bulk32]
  dsimp only
  omega
theorem mem_sum {α : Type} (g : α → Nat) : ∀ {l : List α} {x : α}, x ∈ l → g x ≤ (l.map g).sum
  | y :: l, x, h => by
    rw [List.map_cons, List.sum_cons]
    rcases List.mem_cons.1 h with rfl | h
    · omega
    · have := mem_sum g h
      omega
theorem size_arg {t : S32} {x : S92} (h : x ∈ t.f2) : x.f2.size ≤ bulk32 t := by
  obtain ⟨a, b, c, d, e, f⟩ := t
  have := mem_sum bulk92 (l := c) h
  have h2 : x.f2.size ≤ bulk92 x := by unfold bulk92; omega
  rw [bulk32]
  omega
def FieldsOk (b : Int) (t : S32) : Prop :=
  (t.f0 = 3 → t.f2.length ≤ 3 ∧ ∀ x ∈ t.f2, RefOk b x) ∧ (t.f0 = 4 ∨ t.f0 = 8 ∨ t.f0 = 9 ∨ t.f0 = 10 ∨ t.f0 = 11 ∨ t.f0 = 12 → t.f5.length = 1) ∧ (t.f0 = 7 → t.f5.length = 2)
theorem tot_fbinds (a : Int) : TotP (fun _ => formula_binds.f a) (fun v => v = true ↔ a = 8 ∨ a = 9) := by
  unfold formula_binds.f
  refine TotP.ite (fun h => TotP.now (by simp [h])) (fun h => TotP.now (by simp [h]))
section fields
variable (t : S32) (b : Int) (hb : bulk32 t < 4398046511104)
include hb
end fields
def Good : Nat → Int → S32 → Prop
  | 0, _, _ => False
  | n + 1, b, t => FieldsOk b t ∧ ∀ x ∈ t.f5, Good n (if t.f0 = 8 ∨ t.f0 = 9 then b + 1 else b) x
theorem Ev.tot {α : Type} {g : Nat → Option α} {r : α} (h : Ev g r) : Tot g := ⟨r, h, trivial⟩
theorem tot_rbinds (a : Int) : Tot (fun _ => pentaglotref22_Binds.f a) := by
  unfold pentaglotref22_Binds.f
  repeat' first | with_reducible exact tn_ | with_reducible refine ti_ (fun _ => ?_) (fun _ => ?_) | (exfalso; omega)
theorem tot_rmoment (a : Int) : Tot (fun _ => pentaglotref22_moment.f a) := by
  unfold pentaglotref22_moment.f
  repeat' first | with_reducible exact tn_ | with_reducible refine ti_ (fun _ => ?_) (fun _ => ?_) | (exfalso; omega)
theorem tot_rinside (t : S32) (b : Int) : Tot (fun _ => pentaglotref22_inside.f t.f0 t.f1 t.f2 t.f3 t.f4 t.f5 b) := by
  unfold pentaglotref22_inside.f
  refine TotP.all (tot_rbinds _) (fun _ => ?_)
  repeat' first | with_reducible exact tn_ | with_reducible refine ti_ (fun _ => ?_) (fun _ => ?_) | (exfalso; omega)
section fields
variable (t : S32) (b : Int) (hb : bulk32 t < 4398046511104)
include hb
theorem tr_j5 (o : Int) (x : Bool) : Tot (fun k => pentaglotref22_fields.j5 k o x t.f0 t.f1 t.f2 t.f3 t.f4 t.f5) := by
  refine TotP.step (fun _ => pentaglotref22_fields.j5.eq_2 ..) ?_
  have hs := tot_rsymbol t.f1 (by have := size_name t; omega)
  repeat' first | with_reducible exact tn_ | with_reducible refine ti_ (fun _ => ?_) (fun _ => ?_) | (exfalso; omega) | with_reducible refine TotP.all hs (fun _ => ?_) | with_reducible refine TotP.all (tot_rmoment _) (fun _ => ?_)
theorem tr_j4 (o : Int) (x : Bool) : Tot (fun k => pentaglotref22_fields.j4 k o x t.f0 t.f1 t.f2 t.f3 t.f4 t.f5) := by
  refine TotP.step (fun _ => pentaglotref22_fields.j4.eq_2 ..) ?_
  repeat' first | with_reducible exact tn_ | with_reducible refine ti_ (fun _ => ?_) (fun _ => ?_) | (exfalso; omega) | exact tr_j5 t hb _ _
theorem tr_j3 (o : Int) (x : Bool) : Tot (fun k => pentaglotref22_fields.j3 k o x t.f0 t.f1 t.f2 t.f3 t.f4 t.f5) := by
  refine TotP.step (fun _ => pentaglotref22_fields.j3.eq_2 ..) ?_
  repeat' first | with_reducible exact tn_ | with_reducible refine ti_ (fun _ => ?_) (fun _ => ?_) | (exfalso; omega) | exact tr_j4 t hb _ _
theorem tr_l0 : Tot (fun k => pentaglotref22_fields.l0 k b 0 t.f0 t.f1 t.f2 t.f3 t.f4 t.f5) := by
  have ha := bulk_args t
  have hs := tot_rsymbol t.f1 (by have := size_name t; omega)
  refine loopI t.f2.length (fun i k => pentaglotref22_fields.l0 k b i t.f0 t.f1 t.f2 t.f3 t.f4 t.f5) (fun _ _ => True) (fun j hj => ?_) (fun j hj ih => ?_) 0
  · refine TotP.step (fun _ => pentaglotref22_fields.l0.eq_2 ..) ?_
    repeat' first | with_reducible exact tn_ | with_reducible refine ti_ (fun _ => ?_) (fun _ => ?_) | (exfalso; omega) | with_reducible refine TotP.all hs (fun _ => ?_)
  · refine TotP.step (fun _ => pentaglotref22_fields.l0.eq_2 ..) ?_
    rw [wj hj (by omega), rd92 hj]
    have hr := tot_rreference t.f2[j] b (by have := size_arg (List.getElem_mem hj); omega)
    repeat' first | with_reducible exact tn_ | with_reducible refine ti_ (fun _ => ?_) (fun _ => ?_) | (exfalso; omega) | with_reducible refine TotP.all hr (fun _ => ?_) | exact ih
theorem tr_j1 (o : Int) (x : Bool) : Tot (fun k => pentaglotref22_fields.j1 k b o x t.f0 t.f1 t.f2 t.f3 t.f4 t.f5) := by
  refine TotP.step (fun _ => pentaglotref22_fields.j1.eq_2 ..) ?_
  repeat' first | with_reducible exact tn_ | with_reducible refine ti_ (fun _ => ?_) (fun _ => ?_) | (exfalso; omega) | exact tr_l0 t b hb | exact tr_j3 t hb _ _
theorem tr_j0 (x : Bool) : Tot (fun k => pentaglotref22_fields.j0 k b x t.f0 t.f1 t.f2 t.f3 t.f4 t.f5) := by
  refine TotP.step (fun _ => pentaglotref22_fields.j0.eq_2 ..) ?_
  repeat' first | with_reducible exact tn_ | with_reducible refine ti_ (fun _ => ?_) (fun _ => ?_) | (exfalso; omega) | exact tr_j1 t b hb _ _
theorem tot_rfields : Tot (fun k => pentaglotref22_fields.f k t.f0 t.f1 t.f2 t.f3 t.f4 t.f5 b) := by
  unfold pentaglotref22_fields.f
  repeat' first | exact tr_j0 t b hb _ | with_reducible exact tn_ | with_reducible refine ti_ (fun _ => ?_) (fun _ => ?_) | (exfalso; omega)
end fields
theorem tot_rformed : ∀ (n : Nat) (b : Int) (t : S32), bulk32 t < n → n ≤ 2199023255552 → Tot (fun k => pentaglotref22_Formed.f k t.f0 t.f1 t.f2 t.f3 t.f4 t.f5 b)
  | 0, b, t, h, _ => absurd h (Nat.not_lt_zero _)
  | n + 1, b, t, h, hn => by
    have hk := bulk_kids t
    have hf := tot_rfields t b (by omega)
    refine TotP.step (fun _ => pentaglotref22_Formed.f.eq_2 ..) ?_
    refine loopI t.f5.length (fun i k => pentaglotref22_Formed.l0 k b i t.f0 t.f1 t.f2 t.f3 t.f4 t.f5) (fun _ _ => True) (fun j hj => ?_) (fun j hj ih => ?_) 0
    · refine TotP.step (fun _ => pentaglotref22_Formed.l0.eq_2 ..) ?_
      repeat' first | with_reducible exact tn_ | with_reducible refine ti_ (fun _ => ?_) (fun _ => ?_) | (exfalso; omega) | with_reducible refine TotP.all hf (fun _ => ?_)
    · refine TotP.step (fun _ => pentaglotref22_Formed.l0.eq_2 ..) ?_
      rw [wj hj (by omega), rd32 hj]
      have kid := fun c => tot_rformed n c t.f5[j] (by have := bulk_mem (List.getElem_mem hj); omega) (by omega)
      repeat' first | with_reducible exact tn_ | with_reducible refine ti_ (fun _ => ?_) (fun _ => ?_) | (exfalso; omega) | with_reducible refine TotP.all (tot_rinside t b) (fun _ => ?_) | with_reducible refine TotP.all (kid _) (fun _ => ?_) | exact ih
theorem tot_rvalid (t : S32) (h : bulk32 t < 2199023255552) (c : Int) : Tot (fun k => pentaglotref22_Valid.f k t.f0 t.f1 t.f2 t.f3 t.f4 t.f5 c) := by
  have j0 : ∀ c, Tot (fun k => pentaglotref22_Valid.j0 k c t.f0 t.f1 t.f2 t.f3 t.f4 t.f5) := fun c => by
    refine TotP.step (fun _ => pentaglotref22_Valid.j0.eq_2 ..) ?_
    have h1 := tot_rsize _ t h (by omega)
    have h2 := tot_rdepth _ t h (by omega)
    have h3 := fun c => tot_rformed _ c t h (by omega)
    repeat' first | with_reducible exact tn_ | with_reducible refine ti_ (fun _ => ?_) (fun _ => ?_) | (exfalso; omega) | with_reducible refine TotP.all h1 (fun _ => ?_) | with_reducible refine TotP.all h2 (fun _ => ?_) | with_reducible refine TotP.all (h3 _) (fun _ => ?_)
  unfold pentaglotref22_Valid.f
  repeat' first | exact j0 _ | with_reducible exact tn_ | with_reducible refine ti_ (fun _ => ?_) (fun _ => ?_) | (exfalso; omega)
def indN (ds : List S73) (s : ByteArray) : List ByteArray × Bool :=
  match ds.find? fun d => d.f0.toList == s.toList with | some d => (d.f1, true) | none => ([], false)
theorem ind_mem {ds : List S73} {s x : ByteArray} (h : x ∈ (indN ds s).1) : ∃ d ∈ ds, x ∈ d.f1 := by
  unfold indN at h
  cases hf : ds.find? fun d => d.f0.toList == s.toList with
  | none => rw [hf] at h; exact absurd h (by simp)
  | some d => rw [hf] at h; exact ⟨d, List.mem_of_find?_eq_some hf, h⟩
theorem ind_loop (ds : List S73) (s : ByteArray) {F : Int → Nat → Option (List ByteArray × Bool)}
    (hd : ∀ j, ds.length ≤ j → Ev (F (j : Int)) ([], false))
    (hm : ∀ j, (h : j < ds.length) → (ds[j].f0.toList = s.toList → Ev (F (j : Int)) (ds[j].f1, true)) ∧ (ds[j].f0.toList ≠ s.toList → ∀ r, Ev (F ((j + 1 : Nat) : Int)) r → Ev (F (j : Int)) r)) : Ev (F 0) (indN ds s) := by
  have : ∀ m j, ds.length - j = m → Ev (F (j : Int)) (indN (ds.drop j) s) := by
    intro m
    induction m with
    | zero =>
      intro j hj
      rw [List.drop_eq_nil_of_le (by omega)]
      exact hd j (by omega)
    | succ m ih =>
      intro j hj
      have hj' : j < ds.length := by omega
      rw [List.drop_eq_getElem_cons hj']
      by_cases he : ds[j].f0.toList = s.toList
      · have : indN (ds[j] :: ds.drop (j + 1)) s = (ds[j].f1, true) := by unfold indN; rw [List.find?_cons_of_pos (by simpa using he)]
        rw [this]
        exact (hm j hj').1 he
      · have : indN (ds[j] :: ds.drop (j + 1)) s = indN (ds.drop (j + 1)) s := by unfold indN; rw [List.find?_cons_of_neg (by simpa using he)]
        rw [this]
        exact (hm j hj').2 he _ (ih (j + 1) (by omega))
  have h := this _ 0 rfl
  rw [List.drop_zero] at h
  exact h
theorem ev_ind (ds : List S73) (ts : List Int) (id : Int) (hl : ds.length < 4398046511104) (s : ByteArray) : Ev (fun k => evaluate_individuals.f k ds ts id s) (indN ds s) := by
  refine ind_loop (F := fun i k => evaluate_individuals.l0 k s ds (ds.length : Int) i) ds s (fun j hj => ?_) (fun j hj => ⟨fun he => ?_, fun he r hr => ?_⟩)
  · exact Ev.step (f := fun _ => some ([], false)) (fun k => by rw [evaluate_individuals.l0, if_neg (by omega)]) (Ev.now _)
  · exact Ev.step (f := fun _ => some (ds[j].f1, true)) (fun k => by rw [evaluate_individuals.l0, if_pos (by omega), if_pos (by omega), if_pos (by omega), rd73 hj, if_pos he]) (Ev.now _)
  · exact Ev.step (fun k => by rw [evaluate_individuals.l0, if_pos (by omega), if_pos (by omega), if_pos (by omega), rd73 hj, if_neg he, wj hj (by omega)]) hr
theorem tot_rind (ds : List S73) (ts : List Int) (id : Int) (hl : ds.length < 4398046511104) (s : ByteArray) : Tot (fun k => pentaglotref26_Individuals.f k ds ts id s) := by
  refine loopI ds.length (fun i k => pentaglotref26_Individuals.l0 k s i ds ts id) (fun _ _ => True) (fun j hj => ?_) (fun j hj ih => ?_) 0
  · refine TotP.step (fun _ => pentaglotref26_Individuals.l0.eq_2 ..) ?_
    repeat' first | with_reducible exact tn_ | with_reducible refine ti_ (fun _ => ?_) (fun _ => ?_) | (exfalso; omega)
  · refine TotP.step (fun _ => pentaglotref26_Individuals.l0.eq_2 ..) ?_
    rw [wj hj (by omega)]
    repeat' first | with_reducible exact tn_ | with_reducible refine ti_ (fun _ => ?_) (fun _ => ?_) | (exfalso; omega) | exact ih
section world
variable (ds : List S73) (ts : List Int) (id : Int) (fs : List S62) (hd : ds.length < 4398046511104) (hl : ts.length < 4398046511104)
include hd hl
theorem tot_known : ∀ (n : Nat) (t : S32), bulk32 t < n → n ≤ 2199023255552 → Tot (fun k => pentaglotref26_known.f k ds ts id fs t.f0 t.f1 t.f2 t.f3 t.f4 t.f5)
  | 0, t, h, _ => absurd h (Nat.not_lt_zero _)
  | n + 1, t, h, hn => by
    have hk := bulk_kids t
    have j1 : Tot (fun k => pentaglotref26_known.j1 k ds ts id fs t.f0 t.f1 t.f2 t.f3 t.f4 t.f5) := by
      refine TotP.step (fun _ => pentaglotref26_known.j1.eq_2 ..) ?_
      refine loopI t.f5.length (fun i k => pentaglotref26_known.l0 k i ds ts id fs t.f0 t.f1 t.f2 t.f3 t.f4 t.f5) (fun _ _ => True) (fun j hj => ?_) (fun j hj ih => ?_) 0
      · refine TotP.step (fun _ => pentaglotref26_known.l0.eq_2 ..) ?_
        repeat' first | with_reducible exact tn_ | with_reducible refine ti_ (fun _ => ?_) (fun _ => ?_) | (exfalso; omega)
      · refine TotP.step (fun _ => pentaglotref26_known.l0.eq_2 ..) ?_
        rw [wj hj (by omega), rd32 hj]
        have kid := tot_known n t.f5[j] (by have := bulk_mem (List.getElem_mem hj); omega) (by omega)
        repeat' first | with_reducible exact tn_ | with_reducible refine ti_ (fun _ => ?_) (fun _ => ?_) | (exfalso; omega) | with_reducible refine TotP.all kid (fun _ => ?_) | exact ih
    have j0 : Tot (fun k => pentaglotref26_known.j0 k ds ts id fs t.f0 t.f1 t.f2 t.f3 t.f4 t.f5) := by
      refine TotP.step (fun _ => pentaglotref26_known.j0.eq_2 ..) ?_
      repeat' first | exact j1 | with_reducible exact tn_ | with_reducible refine ti_ (fun _ => ?_) (fun _ => ?_) | (exfalso; omega) | with_reducible refine TotP.all (tot_rbinds _) (fun _ => ?_) | with_reducible refine TotP.all (tot_rind ds ts id hd _) (fun _ => ?_)
    refine TotP.step (fun _ => pentaglotref26_known.f.eq_2 ..) ?_
    repeat' first | exact j0 | with_reducible exact tn_ | with_reducible refine ti_ (fun _ => ?_) (fun _ => ?_) | (exfalso; omega) | with_reducible refine TotP.all (Ev.tot (ev_refInterval ds ts id hl _ _)) (fun _ => ?_)
theorem tot_fits (t : S32) (h : bulk32 t < 2199023255552) : Tot (fun k => pentaglotref26_Fits.f k ds ts id fs t.f0 t.f1 t.f2 t.f3 t.f4 t.f5) := by
  unfold pentaglotref26_Fits.f
  have h1 := tot_rvalid t h 0
  have h2 := tot_known ds ts id fs hd hl _ t h (by omega)
  repeat' first | with_reducible exact tn_ | with_reducible refine ti_ (fun _ => ?_) (fun _ => ?_) | (exfalso; omega) | with_reducible refine TotP.all (Ev.tot (ev_proper ds ts id hd hl)) (fun _ => ?_) | with_reducible refine TotP.all h1 (fun _ => ?_) | with_reducible refine TotP.all h2 (fun _ => ?_)
theorem tot_rwork : ∀ (n : Nat) (t : S32), bulk32 t < n → n ≤ 2199023255552 → Tot (fun k => pentaglotref26_Work.f k ds ts id fs t.f0 t.f1 t.f2 t.f3 t.f4 t.f5)
  | 0, t, h, _ => absurd h (Nat.not_lt_zero _)
  | n + 1, t, h, hn => by
    have hk := bulk_kids t
    have j1 : ∀ (a c o : Int) (x : Bool), Tot (fun k => pentaglotref26_Work.j1 k a c o x ds ts id fs t.f0 t.f1 t.f2 t.f3 t.f4 t.f5) := fun a c o x => by
      refine TotP.step (fun _ => pentaglotref26_Work.j1.eq_2 ..) ?_
      repeat' first | with_reducible exact tn_ | with_reducible refine ti_ (fun _ => ?_) (fun _ => ?_) | (exfalso; omega) | with_reducible refine TotP.all (tot_rind ds ts id hd _) (fun _ => ?_) | with_reducible refine TotP.all (Ev.tot (ev_refInterval ds ts id hl _ _)) (fun _ => ?_)
    refine TotP.step (fun _ => pentaglotref26_Work.f.eq_2 ..) ?_
    refine loopT t.f5.length (fun (s : Int) i k => pentaglotref26_Work.l0 k s i ds ts id fs t.f0 t.f1 t.f2 t.f3 t.f4 t.f5) (fun s => ?_) (fun s j hj ih => ?_) 0
    · refine TotP.step (fun _ => pentaglotref26_Work.l0.eq_2 ..) ?_
      refine TotP.neg (by omega) ?_
      repeat' first | exact j1 _ _ _ _ | with_reducible exact tn_ | with_reducible refine ti_ (fun _ => ?_) (fun _ => ?_) | (exfalso; omega)
    · refine TotP.step (fun _ => pentaglotref26_Work.l0.eq_2 ..) ?_
      rw [wj hj (by omega), rd32 hj]
      have kid := tot_rwork n t.f5[j] (by have := bulk_mem (List.getElem_mem hj); omega) (by omega)
      repeat' first | exact j1 _ _ _ _ | with_reducible exact tn_ | with_reducible refine ti_ (fun _ => ?_) (fun _ => ?_) | (exfalso; omega) | with_reducible refine TotP.all kid (fun _ => ?_) | exact ih _
theorem tot_light (t : S32) (h : bulk32 t < 2199023255552) : Tot (fun k => pentaglotref26_Light.f k ds ts id fs t.f0 t.f1 t.f2 t.f3 t.f4 t.f5) := by
  have j1 : ∀ (x : Bool), Tot (fun k => pentaglotref26_Light.j1 k x ds ts id fs t.f0 t.f1 t.f2 t.f3 t.f4 t.f5) := fun x => by
    refine TotP.step (fun _ => pentaglotref26_Light.j1.eq_2 ..) ?_
    have h1 := tot_fits ds ts id fs hd hl t h
    have h2 := tot_rwork ds ts id fs hd hl _ t h (by omega)
    repeat' first | with_reducible exact tn_ | with_reducible refine ti_ (fun _ => ?_) (fun _ => ?_) | (exfalso; omega) | with_reducible refine TotP.all h1 (fun _ => ?_) | with_reducible refine TotP.all h2 (fun _ => ?_)
  have h3 := tot_rsize _ t h (by omega)
  refine loopT ds.length (fun (s : Int) i k => pentaglotref26_Light.l0 k s i ds ts id fs t.f0 t.f1 t.f2 t.f3 t.f4 t.f5) (fun s => ?_) (fun s j hj ih => ?_) 0
  · refine TotP.step (fun _ => pentaglotref26_Light.l0.eq_2 ..) ?_
    refine TotP.neg (by omega) ?_
    repeat' first | exact j1 _ | with_reducible exact tn_ | with_reducible refine ti_ (fun _ => ?_) (fun _ => ?_) | (exfalso; omega) | with_reducible refine TotP.all h3 (fun _ => ?_)
  · refine TotP.step (fun _ => pentaglotref26_Light.l0.eq_2 ..) ?_
    rw [wj hj (by omega)]
    refine TotP.pos (by omega) ?_
    refine TotP.pos (by omega) ?_
    exact ih _
end world
theorem okI_b {x : Int} (h0 : -9223372036854775808 ≤ x) (h1 : x ≤ 9223372036854775807) : okI x = true := by
  unfold okI
  simp only [Bool.and_eq_true, decide_eq_true_eq]
  exact ⟨h0, h1⟩
theorem okI_i {x : Int} (h : (Lit.int .i64 x).wf = true) : okI x = true := by
  have := bounds_i64 h
  exact okI_b this.1 this.2
theorem okS_b {s : ByteArray} (h : s.size ≤ 9223372036854775807) : okS s = true := by
  unfold okS
  exact decide_eq_true h
theorem itB_size {n : Int} (h0 : -9223372036854775808 ≤ n) (h1 : n ≤ 9223372036854775807) : (itB n).size ≤ 21 := by
  have := Lib.itoa_length_le n h0 h1
  have h2 : (itB n).size = (Lib.itoa n).toArray.size := rfl
  rw [h2, List.size_toArray]
  exact this
theorem tot_some {all : Bool} {p : Nat → Int → Option Bool} : ∀ (N : Nat) (lo : Int), (∀ j, lo ≤ j → j < lo + N → Tot (fun k => p k j)) → Tot (fun k => someL all (p k) N lo)
  | 0, lo, h => by
    unfold someL
    exact TotP.now trivial
  | N + 1, lo, h => by
    unfold someL
    refine TotP.all (h lo (by omega) (by omega)) (fun v => TotP.ite (fun _ => ?_) (fun _ => TotP.now trivial))
    exact tot_some N (lo + 1) (fun j h1 h2 => h j (by omega) (by omega))
theorem name_some {x : S92} {bnd : List ByteArray} (hr : RefOk (bnd.length : Int) x) (hw : wf92 x) (hb : ∀ s ∈ bnd, okS s = true) (hl : bnd.length < 4398046511104) : ∃ s, evaluate_name.f x.f0 x.f1 x.f2 bnd = some s ∧ okS s = true := by
  obtain ⟨_, hi, hs⟩ := hw
  have hi := bounds_i64 hi
  have hit := itB_size hi.1 hi.2
  unfold evaluate_name.f
  by_cases h1 : x.f0 = 1
  · have := hr h1
    rw [if_pos h1, w64 (x := (bnd.length : Int) - 1) (by omega) (by omega), w64 (by omega) (by omega), if_pos (by omega), if_pos (by omega)]
    refine ⟨_, rfl, ?_⟩
    have hj : ((bnd.length : Int) - 1 - x.f1).toNat < bnd.length := by omega
    unfold rdOf
    rw [List.getD_eq_getElem?_getD, List.getElem?_eq_getElem hj]
    exact hb _ (List.getElem_mem hj)
  · rw [if_neg h1]
    by_cases h2 : x.f0 = 2
    · rw [if_pos h2]
      exact ⟨_, rfl, okS_b hs⟩
    · rw [if_neg h2]
      have hf : strconv_Itoa.f x.f1 = some (itB x.f1) := by unfold strconv_Itoa.f; rw [if_pos hi]
      rw [hf]
      simp only [Option.bind_some]
      by_cases h3 : x.f0 = 3
      · rw [if_pos h3, if_pos (by omega)]
        refine ⟨_, rfl, okS_b ?_⟩
        rw [ByteArray.size_append]
        have : (⟨#[64]⟩ : ByteArray).size = 1 := rfl
        omega
      · rw [if_neg h3]
        exact ⟨_, rfl, okS_b (by omega)⟩
theorem args_some {bnd : List ByteArray} (hb : ∀ s ∈ bnd, okS s = true) (hl : bnd.length < 4398046511104) : ∀ l : List S92, (∀ x ∈ l, RefOk (bnd.length : Int) x) → (∀ x ∈ l, wf92 x) → ∃ al, argsG bnd l = some al ∧ al.all okS = true
  | [], _, _ => ⟨[], rfl, rfl⟩
  | x :: l, hr, hw => by
    obtain ⟨s, hs, hs'⟩ := name_some (hr x (by simp)) (hw x (by simp)) hb hl
    obtain ⟨al, ha, ha'⟩ := args_some hb hl l (fun y hy => hr y (by simp [hy])) (fun y hy => hw y (by simp [hy]))
    refine ⟨s :: al, ?_, ?_⟩
    · rw [argsG, hs, Option.bind_some, ha, Option.bind_some]
    · rw [List.all_cons, hs', ha']
      rfl
theorem wf_name {t : S32} (h : wf32 t) : t.f1.size ≤ 9223372036854775807 ∧ ∀ x ∈ t.f2, wf92 x := by
  obtain ⟨a, b, c, d, e, f⟩ := t
  rw [wf32] at h
  exact ⟨h.2.1, h.2.2.1⟩
section world
variable (ds : List S73) (ts : List Int) (id : Int) (fs : List S62) (hw : ∀ d ∈ ds, wf73 d) (hd : ds.length < 4398046511104) (hdn : ∀ d ∈ ds, d.f1.length < 4398046511104) (hl : ts.length < 4398046511104) (ha : ts.Pairwise (· < ·)) (hid : id = 1 ∨ id = 2)
include hw hd hdn hl ha hid
theorem ind_ok (s : ByteArray) : (indN ds s).1.length < 4398046511104 ∧ ∀ x ∈ (indN ds s).1, okS x = true := by
  refine ⟨?_, fun x hx => ?_⟩
  · unfold indN
    cases hf : ds.find? fun d => d.f0.toList == s.toList with
    | none => exact (by decide : ([] : List ByteArray).length < 4398046511104)
    | some d => exact hdn d (List.mem_of_find?_eq_some hf)
  · obtain ⟨d, hd', hx'⟩ := ind_mem hx
    exact okS_b ((hw d hd').2 x hx')
theorem tot_truth : ∀ (n : Nat) (t : S32) (bnd : List ByteArray) (co m : Int), Good n (bnd.length : Int) t → wf32 t → bnd.length + n ≤ 4398046511103 → (∀ s ∈ bnd, okS s = true) → okI co = true → okI m = true → Tot (fun k => truthG ds ts id fs k t bnd co m)
  | 0, t, bnd, co, m, hg, _, _, _, _, _ => hg.elim
  | n + 1, t, bnd, co, m, hg, hwt, hn, hb, hco, hm => by
    obtain ⟨⟨hf3, hf1, hf7⟩, hgk⟩ := hg
    have hnm := wf_name hwt
    have sub : ∀ (j : Nat) (hj : j < t.f5.length) (bnd' : List ByteArray) (co' m' : Int), (bnd'.length : Int) = (if t.f0 = 8 ∨ t.f0 = 9 then (bnd.length : Int) + 1 else (bnd.length : Int)) → (∀ s ∈ bnd', okS s = true) → okI co' = true → okI m' = true → Tot (fun k => truthG ds ts id fs k t.f5[j] bnd' co' m') := by
      intro j hj bnd' co' m' hlen hb' hco' hm'
      have hmem := List.getElem_mem hj
      refine tot_truth n t.f5[j] bnd' co' m' (by rw [hlen]; exact hgk _ hmem) (wf_kid hwt hmem) ?_ hb' hco' hm'
      split at hlen <;> omega
    have kid : t.f0 ≠ 8 → t.f0 ≠ 9 → ∀ (i : Int), 0 ≤ i → i < (t.f5.length : Int) → Tot (fun k => if 0 ≤ i ∧ i < (t.f5.length : Int) then truthG ds ts id fs k (rd_T32 t.f5 i) bnd co m else none) := by
      intro h8 h9 i h0 h1
      obtain ⟨j, rfl⟩ := Int.eq_ofNat_of_zero_le h0
      refine TotP.pos ⟨h0, h1⟩ ?_
      rw [rd32 (show j < t.f5.length by omega)]
      exact sub j (by omega) bnd co m (by rw [if_neg (by omega)]) hb hco hm
    refine TotP.step (fun _ => truthG.eq_2 ..) ?_
    dsimp only
    refine TotP.ite (fun _ => TotP.now trivial) (fun h1 => ?_)
    refine TotP.ite (fun h3 => ?_) (fun h3 => ?_)
    · obtain ⟨al, hal, hal'⟩ := args_some hb (by omega) t.f2 (hf3 h3).2 hnm.2
      have : atomG fs t bnd co m = some (fs.any fun x => sameF x t.f1 al m co) := by
        unfold atomG
        rw [if_pos ⟨(hf3 h3).1, okS_b hnm.1, hm, hco⟩, hal, Option.bind_some, if_pos hal']
      rw [this]
      exact TotP.now trivial
    refine TotP.ite (fun h4 => ?_) (fun h4 => ?_)
    · have := hf1 (by omega)
      exact TotP.all (kid (by omega) (by omega) 0 (by omega) (by omega)) (fun _ => TotP.now trivial)
    refine TotP.ite (fun h5 => ?_) (fun h5 => ?_)
    · exact tot_some _ _ (fun j h0 h1 => kid (by omega) (by omega) j h0 (by omega))
    refine TotP.ite (fun h6 => ?_) (fun h6 => ?_)
    · exact tot_some _ _ (fun j h0 h1 => kid (by omega) (by omega) j h0 (by omega))
    refine TotP.ite (fun h7 => ?_) (fun h7 => ?_)
    · have := hf7 h7
      refine TotP.all (kid (by omega) (by omega) 0 (by omega) (by omega)) (fun _ => TotP.ite (fun _ => ?_) (fun _ => TotP.now trivial))
      exact kid (by omega) (by omega) 1 (by omega) (by omega)
    have io := ind_ok ds ts id hw hd hdn hl ha hid t.f1
    have bind_ : (t.f0 = 8 ∨ t.f0 = 9) → ∀ i : Int, 0 ≤ i → i < ((indN ds t.f1).1.length : Int) → 0 < t.f5.length → Tot (fun k => truthG ds ts id fs k (rd_T32 t.f5 0) (bnd ++ [rdOf ByteArray.empty (indN ds t.f1).1 i]) co m) := by
      intro h89 i h0 h1 hk
      have := sub 0 hk (bnd ++ [rdOf ByteArray.empty (indN ds t.f1).1 i]) co m (by rw [if_pos h89]; simp) (fun s hs => by
        rcases List.mem_append.1 hs with hs | hs
        · exact hb s hs
        · obtain rfl := List.mem_singleton.1 hs
          have hj : i.toNat < (indN ds t.f1).1.length := by omega
          unfold rdOf
          rw [List.getD_eq_getElem?_getD, List.getElem?_eq_getElem hj]
          exact io.2 _ (List.getElem_mem hj)) hco hm
      have e0 : rd_T32 t.f5 0 = t.f5[0] := rd32 hk
      rw [e0]
      exact this
    refine TotP.ite (fun h8 => ?_) (fun h8 => ?_)
    · have := hf1 (by omega)
      refine TotP.bind (Q := fun r => r = indN ds t.f1) ⟨_, ev_ind ds ts id hd _, rfl⟩ (fun ns hns => ?_)
      subst hns
      refine TotP.pos ⟨by omega, io.1, by omega⟩ ?_
      exact tot_some _ _ (fun j h0 h1 => bind_ (.inl h8) j h0 (by omega) (by omega))
    refine TotP.ite (fun h9 => ?_) (fun h9 => ?_)
    · have := hf1 (by omega)
      refine TotP.bind (Q := fun r => r = indN ds t.f1) ⟨_, ev_ind ds ts id hd _, rfl⟩ (fun ns hns => ?_)
      subst hns
      refine TotP.pos ⟨by omega, io.1, by omega⟩ ?_
      exact tot_some _ _ (fun j h0 h1 => bind_ (.inr h9) j h0 (by omega) (by omega))
    have one : ∀ co' m' : Int, okI co' = true → okI m' = true → 0 < t.f5.length → Tot (fun k => truthG ds ts id fs k (rd_T32 t.f5 0) bnd co' m') := by
      intro co' m' hc' hm' hk
      have e0 : rd_T32 t.f5 0 = t.f5[0] := rd32 hk
      rw [e0]
      exact sub 0 hk bnd co' m' (by rw [if_neg (by omega)]) hb hc' hm'
    refine TotP.ite (fun h10 => ?_) (fun h10 => ?_)
    · have := hf1 (by omega)
      refine TotP.bind (Q := fun r => r = itv ts t.f3 t.f4) ⟨_, ev_interval ds id ha hl _ _, rfl⟩ (fun ab hab => ?_)
      have hbd : 0 ≤ ab.1 ∧ ab.2.1 ≤ 2 * (ts.length : Int) + 1 := by
        subst hab
        unfold itv
        cases hf : endN ts 0 t.f3 with
        | none => exact ⟨by simp, by simp; omega⟩
        | some a =>
          cases ht : endN ts (2 * (ts.length : Int) + 1) t.f4 with
          | none => exact ⟨by simp, by simp; omega⟩
          | some c =>
            have h1 := endN_bound hf (by omega)
            have h2 := endN_bound ht (by omega)
            have hm : mx a c = if a < c then c else a := rfl
            dsimp only
            rw [hm]
            split <;> omega
      refine TotP.pos ⟨by omega, by omega, by omega⟩ ?_
      exact tot_some _ _ (fun j h0 h1 => one co j hco (okI_b (by omega) (by omega)) (by omega))
    refine TotP.ite (fun h11 => ?_) (fun h11 => ?_)
    · have := hf1 (by omega)
      refine TotP.pos ⟨by omega, by omega, by omega⟩ ?_
      exact tot_some _ _ (fun j h0 h1 => one j m (okI_b (by omega) (by omega)) hm (by omega))
    refine TotP.ite (fun h12 => ?_) (fun h12 => ?_)
    · have := hf1 (by omega)
      refine TotP.pos ⟨by omega, by omega, by omega⟩ ?_
      exact tot_some _ _ (fun j h0 h1 => one j m (okI_b (by omega) (by omega)) hm (by omega))
    exact TotP.now trivial
end world
section world
variable (ds : List S73) (ts : List Int) (id : Int) (fs : List S62) (hw : ∀ d ∈ ds, wf73 d) (hd : ds.length < 4398046511104) (hdn : ∀ d ∈ ds, d.f1.length < 4398046511104) (hl : ts.length < 4398046511104) (hfw : ∀ x ∈ fs, wf62 x) (hfl : fs.length < 4398046511104)
include hw hd hdn hl hfw hfl
theorem facts_ok : fs.all factOk = true := by
  rw [List.all_eq_true]
  intro x hx
  obtain ⟨h0, h1, h2, h3⟩ := hfw x hx
  unfold factOk
  rw [okS_b h0, okI_i h2, okI_i h3, List.all_eq_true.2 (fun s hs => okS_b (h1 s hs))]
  rfl
theorem proper_id (hp : properB ds ts id = true) : ts.Pairwise (· < ·) ∧ (id = 1 ∨ id = 2) := by
  unfold properB at hp
  simp only [Bool.and_eq_true, Bool.or_eq_true, beq_iff_eq] at hp
  exact ⟨tm_lt hp.1, hp.2.2⟩
theorem tot_truth0 (n : Nat) (t : S32) (h : bulk32 t < n) (hn : n ≤ 2199023255552) (hwt : wf32 t) (hp : properB ds ts id = true) (hg : Good n 0 t) (co m : Int) (hc : okI co = true) (hm : okI m = true) : Tot (fun k => truthG ds ts id fs k t [] co m) := by
  obtain ⟨ha, hid⟩ := proper_id ds ts id fs hw hd hdn hl hfw hfl hp
  exact tot_truth ds ts id fs hw hd hdn hl ha hid n t [] co m hg hwt (by simp; omega) (fun s hs => by simp at hs) hc hm
end world
end Go.Proofs.YtolpckflofjfhaaDoor.En
