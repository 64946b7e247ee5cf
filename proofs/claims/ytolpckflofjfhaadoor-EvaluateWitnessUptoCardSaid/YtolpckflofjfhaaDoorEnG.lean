import Derived.Test.YtolpckflofjfhaaDoorPx0
import Derived.Test.YtolpckflofjfhaaDoorPx8
import Derived.Test.YtolpckflofjfhaaDoorPx9
import Derived.Test.YtolpckflofjfhaaDoorPx22
import Derived.Test.YtolpckflofjfhaaDoorPx26
import Derived.Test.YtolpckflofjfhaaDoorPx27
import Derived.Test.YtolpckflofjfhaaDoorEnF
import Derived.Lib.ItoaNum
namespace Go.Proofs.YtolpckflofjfhaaDoor.En
set_option linter.unusedVariables false
set_option linter.unusedSimpArgs false
set_option linter.unusedSectionVars false
open Go.RowKit Go.Proofs.YtolpckflofjfhaaDoor.P Go.Proofs.YtolpckflofjfhaaDoorW.PrintWords Go.Proofs.YtolpckflofjfhaaDoorW.PrintLast
theorem digit_b (u : Nat) (h : u < 10) : (⟨#[48, 49, 50, 51, 52, 53, 54, 55, 56, 57]⟩ : ByteArray).extract u (u + 1) = ⟨#[UInt8.ofNat (48 + u)]⟩ := by
  match u, h with
  | 0, _ => rfl
  | 1, _ => rfl
  | 2, _ => rfl
  | 3, _ => rfl
  | 4, _ => rfl
  | 5, _ => rfl
  | 6, _ => rfl
  | 7, _ => rfl
  | 8, _ => rfl
  | 9, _ => rfl
theorem tv_digits : ∀ (n u : Nat), u < n → n ≤ 4398046511104 → TotP (fun k => pentaglotref22_Digits.f k (u : Int)) (fun r => r = ⟨(Lib.decDigits u).toArray⟩)
  | 0, u, h, _ => absurd h (Nat.not_lt_zero _)
  | n + 1, u, h, hn => by
    refine TotP.step (fun _ => pentaglotref22_Digits.f.eq_2 ..) (TotP.neg (by omega) ?_)
    have e1 : wrap64 ((u : Int) + 1) = ((u + 1 : Nat) : Int) := by rw [w64 (by omega) (by omega)]; rfl
    refine TotP.ite (fun h10 => ?_) (fun h10 => ?_)
    · rw [e1]
      refine TotP.pos (by omega) (TotP.pos (by omega) (TotP.pos (by omega) (TotP.now ?_)))
      rw [Int.toNat_natCast, Int.toNat_natCast, digit_b u (by omega), Lib.decDigits_one (by omega)]
    · have q1 : wrap64 (Int.tdiv (u : Int) 10) = ((u / 10 : Nat) : Int) := by
        have : Int.tdiv (u : Int) 10 = ((u / 10 : Nat) : Int) := rfl
        rw [this, w64 (by omega) (by omega)]
      have q2 : Int.tmod (u : Int) 10 = ((u % 10 : Nat) : Int) := rfl
      rw [q1, q2]
      refine TotP.bind (tv_digits n (u / 10) (by omega) (by omega)) (fun a ha => TotP.bind (tv_digits n (u % 10) (by omega) (by omega)) (fun b hb => ?_))
      subst ha hb
      have l1 := Lib.decDigits_length (u / 10)
      have l2 := Lib.decDigits_length (u % 10)
      have b1 := Lib.nDigits_le20 (u / 10) (by omega)
      have b2 : Lib.nDigits (u % 10) = 1 := Lib.nDigits_small (by omega)
      refine TotP.pos ?_ (TotP.now ?_)
      · have s1 : (⟨(Lib.decDigits (u / 10)).toArray⟩ : ByteArray).size = (Lib.decDigits (u / 10)).length := by show (Lib.decDigits (u / 10)).toArray.size = _; simp
        have s2 : (⟨(Lib.decDigits (u % 10)).toArray⟩ : ByteArray).size = (Lib.decDigits (u % 10)).length := by show (Lib.decDigits (u % 10)).toArray.size = _; simp
        omega
      · rw [Lib.decDigits_one (i := u % 10) (by omega)]
        conv => rhs; rw [Lib.decDigits, dif_neg (by omega)]
        apply ByteArray.ext
        simp
theorem dig_it (u : Nat) : (⟨(Lib.decDigits u).toArray⟩ : ByteArray) = itB (u : Int) := by
  unfold itB Lib.itoa
  rw [if_neg (by omega), Int.toNat_natCast]
theorem tv_rname {x : S92} {bnd : List ByteArray} (hr : RefP (bnd.length : Int) x) (hb : ∀ s ∈ bnd, okS s = true) (hl : bnd.length < 4398046511104) (hw : wf92 x) {s : ByteArray} (hs : evaluate_name.f x.f0 x.f1 x.f2 bnd = some s) : TotP (fun k => pentaglotref26_Name.f k x.f0 x.f1 x.f2 bnd) (fun r => r = s) := by
  unfold evaluate_name.f at hs
  unfold pentaglotref26_Name.f
  rcases hr with h | h | h | h
  · have h1 := h.1
    have h2 := h.2.2
    rw [if_pos h1, w64 (x := (bnd.length : Int) - 1) (by omega) (by omega), w64 (by omega) (by omega), if_pos (by omega), if_pos (by omega)] at hs
    refine TotP.pos h1 ?_
    rw [w64 (x := (bnd.length : Int) - 1) (by omega) (by omega), w64 (by omega) (by omega)]
    exact TotP.pos (by omega) (TotP.pos (by omega) (TotP.now (Option.some.inj hs)))
  · rw [if_neg (by omega), if_pos h.1] at hs
    exact TotP.neg (by omega) (TotP.pos h.1 (TotP.now (Option.some.inj hs)))
  · obtain ⟨u, hu⟩ := Int.eq_ofNat_of_zero_le h.2.2.1
    have hf : strconv_Itoa.f x.f1 = some (itB x.f1) := by unfold strconv_Itoa.f; rw [if_pos (bounds_i64 hw.2.1)]
    rw [if_neg (by omega), if_neg (by omega), if_pos h.1, hf, Option.bind_some] at hs
    refine TotP.neg (by omega) (TotP.neg (by omega) (TotP.pos h.1 ?_))
    rw [hu] at hs ⊢
    have hd := tv_digits (u + 1) u (by omega) (by omega)
    rw [dig_it] at hd
    refine TotP.bind hd (fun a ha => ?_)
    subst ha
    split at hs
    · exact TotP.pos (by omega) (TotP.now (Option.some.inj hs))
    · cases hs
  · obtain ⟨u, hu⟩ := Int.eq_ofNat_of_zero_le h.2.2.1
    have hf : strconv_Itoa.f x.f1 = some (itB x.f1) := by unfold strconv_Itoa.f; rw [if_pos (bounds_i64 hw.2.1)]
    rw [if_neg (by omega), if_neg (by omega), if_neg (by omega), hf, Option.bind_some] at hs
    refine TotP.neg (by omega) (TotP.neg (by omega) (TotP.neg (by omega) ?_))
    rw [hu] at hs ⊢
    have hd := tv_digits (u + 1) u (by omega) (by omega)
    rw [dig_it] at hd
    refine TotP.bind hd (fun a ha => TotP.now ?_)
    subst ha
    exact Option.some.inj hs
theorem nth_out {l : List ByteArray} {i : Nat} (h : l.length ≤ i) : nth l i = ⟨#[]⟩ := by
  unfold nth; rw [List.getD_eq_getElem?_getD, List.getElem?_eq_none h]; rfl
theorem same_iff (x : S62) (p : ByteArray) (al : List ByteArray) (m co : Int) (h3 : al.length ≤ 3) : sameF x p al m co = true ↔ x.f0.toList = p.toList ∧ (x.f1.length : Int) = (al.length : Int) ∧ x.f3 = co ∧ x.f2 = m ∧ ∀ i, i < al.length → (nth x.f1 i).toList = (nth al i).toList := by
  have tl : ∀ a b : ByteArray, a.data = b.data ↔ a.toList = b.toList := fun a b => by
    rw [Lib.toList_data, Lib.toList_data]
    exact ⟨fun h => by rw [h], fun h => Array.toList_inj.1 h⟩
  unfold sameF
  simp only [Bool.and_eq_true, decide_eq_true_eq, beq_iff_eq, tl]
  constructor
  · rintro ⟨h0, h1, h2, h3', h4, h5, h6, h7⟩
    refine ⟨h1, by omega, h7, h6, fun i hi => ?_⟩
    match i, hi with
    | 0, _ => exact h2
    | 1, _ => exact h3'
    | 2, _ => exact h4
    | i + 3, hi => omega
  · rintro ⟨h1, h5, h7, h6, ha⟩
    have hl : x.f1.length = al.length := by omega
    have nn : ∀ i, (nth x.f1 i).toList = (nth al i).toList := fun i => by
      rcases Nat.lt_or_ge i al.length with h | h
      · exact ha i h
      · rw [nth_out h, nth_out (by omega)]
    exact ⟨by omega, h1, nn 0, nn 1, nn 2, hl, h6, h7⟩
theorem rd62 {l : List S62} {j : Nat} (h : j < l.length) : rd_T62 l (j : Int) = l[j] := by
  unfold rd_T62
  rw [Int.toNat_natCast, List.getD_eq_getElem?_getD, List.getElem?_eq_getElem h]
  rfl
theorem rdOf_nth (l : List ByteArray) (i : Nat) : rdOf ByteArray.empty l (i : Int) = nth l i := by
  unfold rdOf nth
  rw [Int.toNat_natCast]
  rfl
theorem tv_atom (ds : List S73) (ts : List Int) (id : Int) (fs : List S62) (hfl : fs.length < 4398046511104) (t : S32) (bnd : List ByteArray) (co m : Int) (hA : AtomP (bnd.length : Int) t) (hb : ∀ s ∈ bnd, okS s = true) (hl : bnd.length < 4398046511104) (hw : ∀ x ∈ t.f2, wf92 x) {al : List ByteArray} (hal : argsG bnd t.f2 = some al) :
    TotP (fun k => pentaglotref26_atom.f k ds ts id fs t.f0 t.f1 t.f2 t.f3 t.f4 t.f5 bnd co m) (fun r => r = fs.any fun x => sameF x t.f1 al m co) := by
  obtain ⟨hlen, hat⟩ := argsG_at hal
  have h3 : al.length ≤ 3 := by rw [hlen]; exact hA.2.2.2.1
  refine TotP.weak (loopI fs.length (fun i k => pentaglotref26_atom.l0 k bnd co m i ds ts id fs t.f0 t.f1 t.f2 t.f3 t.f4 t.f5) (fun j r => r = (fs.drop j).any fun x => sameF x t.f1 al m co) (fun j hj => ?_) (fun j hj ih => ?_) 0) (fun r hr => by rw [hr, List.drop_zero])
  · refine TotP.step (fun _ => pentaglotref26_atom.l0.eq_2 ..) (TotP.neg (by omega) (TotP.now ?_))
    rw [List.drop_eq_nil_of_le (by omega)]; rfl
  · refine TotP.step (fun _ => pentaglotref26_atom.l0.eq_2 ..) (TotP.pos (by omega) (TotP.pos (by omega) ?_))
    rw [rd62 hj, List.drop_eq_getElem_cons hj, List.any_cons]
    obtain ⟨x, hx⟩ : ∃ x, x = fs[j] := ⟨_, rfl⟩
    rw [← hx]
    have no : ¬ sameF x t.f1 al m co = true → ∀ i : Int, TotP (fun k => pentaglotref26_atom.l1 k bnd co m (j : Int) false i ds ts id fs t.f0 t.f1 t.f2 t.f3 t.f4 t.f5 x.f0 x.f1 x.f2 x.f3) (fun r => r = (sameF x t.f1 al m co || (fs.drop (j + 1)).any fun x => sameF x t.f1 al m co)) := fun hs i => by
      refine TotP.step (fun _ => pentaglotref26_atom.l1.eq_2 ..) (TotP.neg (by decide) ?_)
      rw [wj hj (by omega), Bool.eq_false_iff.2 hs, Bool.false_or]
      exact ih
    have no1 : ¬ sameF x t.f1 al m co = true → TotP (fun k => pentaglotref26_atom.j1 k bnd co m (j : Int) false ds ts id fs t.f0 t.f1 t.f2 t.f3 t.f4 t.f5 x.f0 x.f1 x.f2 x.f3) (fun r => r = (sameF x t.f1 al m co || (fs.drop (j + 1)).any fun x => sameF x t.f1 al m co)) := fun hs => TotP.step (fun _ => pentaglotref26_atom.j1.eq_2 ..) (no hs 0)
    refine TotP.ite (fun c1 => ?_) (fun c1 => no1 (fun h => c1 ((same_iff x t.f1 al m co h3).1 h).1))
    refine TotP.ite (fun c2 => ?_) (fun c2 => no1 (fun h => c2 (by rw [← hlen]; exact ((same_iff x t.f1 al m co h3).1 h).2.1)))
    refine TotP.ite (fun c3 => ?_) (fun c3 => no1 (fun h => c3 ((same_iff x t.f1 al m co h3).1 h).2.2.1))
    refine TotP.step (fun _ => pentaglotref26_atom.j1.eq_2 ..) ?_
    have loop : ∀ n i, t.f2.length - i = n → i ≤ t.f2.length → ∀ b : Bool, (b = true → x.f2 = m ∧ ∀ i', i' < i → (nth x.f1 i').toList = (nth al i').toList) → (b = false → ¬ sameF x t.f1 al m co = true) →
        TotP (fun k => pentaglotref26_atom.l1 k bnd co m (j : Int) b (i : Int) ds ts id fs t.f0 t.f1 t.f2 t.f3 t.f4 t.f5 x.f0 x.f1 x.f2 x.f3) (fun r => r = (sameF x t.f1 al m co || (fs.drop (j + 1)).any fun x => sameF x t.f1 al m co)) := by
      intro n
      induction n with
      | zero =>
        intro i hi hil b hb1 hb0
        cases b with
        | false => exact no (hb0 rfl) _
        | true =>
          obtain ⟨h1, h2⟩ := hb1 rfl
          refine TotP.step (fun _ => pentaglotref26_atom.l1.eq_2 ..) (TotP.pos rfl (TotP.neg (by omega) (TotP.now ?_)))
          rw [(same_iff x t.f1 al m co h3).2 ⟨c1, by omega, c3, h1, fun i' hi' => h2 i' (by omega)⟩, Bool.true_or]
      | succ n ihn =>
        intro i hi hil b hb1 hb0
        cases b with
        | false => exact no (hb0 rfl) _
        | true =>
          obtain ⟨h1, h2⟩ := hb1 rfl
          have hi2 : i < t.f2.length := by omega
          have ht2 := hA.2.2.2.1
          refine TotP.step (fun _ => pentaglotref26_atom.l1.eq_2 ..) (TotP.pos rfl (TotP.pos (by omega) (TotP.pos (by omega) (TotP.pos (by omega) ?_))))
          have hn := hat i hi2
          rw [wj hi2 (by omega)]
          rw [rd92 hi2] at hn ⊢
          refine TotP.bind (tv_rname (hA.1 _ (List.getElem_mem hi2)) hb hl (hw _ (List.getElem_mem hi2)) hn) (fun a ha => ?_)
          subst ha
          rw [rdOf_nth]
          refine ihn (i + 1) (by omega) (by omega) _ (fun he => ⟨h1, fun i' hi' => ?_⟩) (fun he hs => ?_)
          · rcases Nat.lt_or_eq_of_le (Nat.le_of_lt_succ hi') with h | h
            · exact h2 i' h
            · subst h; simpa using he
          · have := ((same_iff x t.f1 al m co h3).1 hs).2.2.2.2 i (by omega)
            rw [this] at he
            simp at he
    refine loop _ 0 rfl (Nat.zero_le _) _ (fun h => ⟨by simpa using h, fun i' hi' => absurd hi' (Nat.not_lt_zero _)⟩) (fun h hs => ?_)
    have := ((same_iff x t.f1 al m co h3).1 hs).2.2.2.1
    rw [this] at h
    simp at h
def Ev2 {α : Type} (g g' : Nat → Option α) : Prop := ∃ r, Ev g r ∧ Ev g' r
theorem Ev2.now {α : Type} (r : α) : Ev2 (fun _ => some r) (fun _ => some r) := ⟨r, Ev.now r, Ev.now r⟩
theorem Ev2.step {α : Type} {g f g' f' : Nat → Option α} (h : ∀ k, g (k + 1) = f k) (h' : ∀ k, g' (k + 1) = f' k) (e : Ev2 f f') : Ev2 g g' := by
  obtain ⟨r, h1, h2⟩ := e
  exact ⟨r, Ev.step h h1, Ev.step h' h2⟩
theorem Ev2.bind {α β : Type} {g g' : Nat → Option α} {f f' : Nat → α → Option β} (e : Ev2 g g') (k : ∀ a, Ev2 (fun n => f n a) (fun n => f' n a)) : Ev2 (fun n => (g n).bind (f n)) (fun n => (g' n).bind (f' n)) := by
  obtain ⟨a, h1, h2⟩ := e
  obtain ⟨r, h3, h4⟩ := k a
  exact ⟨r, Ev.bind h1 h3, Ev.bind h2 h4⟩
theorem Ev2.if_ {α : Type} {c : Prop} [Decidable c] {f g f' g' : Nat → Option α} (h : c → Ev2 f f') (k : ¬c → Ev2 g g') : Ev2 (fun n => if c then f n else g n) (fun n => if c then f' n else g' n) := by
  by_cases hc : c
  · simp only [if_pos hc]; exact h hc
  · simp only [if_neg hc]; exact k hc
theorem Ev2.posL {α : Type} {c : Prop} [Decidable c] {f g f' : Nat → Option α} (hc : c) (h : Ev2 f f') : Ev2 (fun n => if c then f n else g n) f' := by simp only [if_pos hc]; exact h
theorem Ev2.posR {α : Type} {c : Prop} [Decidable c] {f f' g' : Nat → Option α} (hc : c) (h : Ev2 f f') : Ev2 f (fun n => if c then f' n else g' n) := by simp only [if_pos hc]; exact h
theorem Ev2.bindL {α β : Type} {g : Nat → Option α} {f : Nat → α → Option β} {f' : Nat → Option β} {v : α} (h : Ev g v) (k : Ev2 (fun n => f n v) f') : Ev2 (fun n => (g n).bind (f n)) f' := by
  obtain ⟨r, h3, h4⟩ := k
  exact ⟨r, Ev.bind h h3, h4⟩
theorem Ev2.bindR {α β : Type} {g : Nat → Option α} {f : Nat → Option β} {f' : Nat → α → Option β} {v : α} (h : Ev g v) (k : Ev2 f (fun n => f' n v)) : Ev2 f (fun n => (g n).bind (f' n)) := by
  obtain ⟨r, h3, h4⟩ := k
  exact ⟨r, h3, Ev.bind h h4⟩
theorem Ev2.sm {all : Bool} {p q : Nat → Int → Option Bool} : ∀ (N : Nat) (lo lo' : Int), (∀ j : Nat, j < N → Ev2 (fun k => p k (lo + j)) (fun k => q k (lo' + j))) → Ev2 (fun k => someL all (p k) N lo) (fun k => someL all (q k) N lo')
  | 0, lo, lo', h => by
    unfold someL
    exact Ev2.now _
  | N + 1, lo, lo', h => by
    unfold someL
    have h0 := h 0 (by omega)
    rw [Int.ofNat_zero, Int.add_zero, Int.add_zero] at h0
    refine Ev2.bind h0 (fun b => Ev2.if_ (fun _ => ?_) (fun _ => Ev2.now _))
    refine Ev2.sm N (lo + 1) (lo' + 1) (fun j hj => ?_)
    have := h (j + 1) (by omega)
    rw [show lo + 1 + (j : Int) = lo + ((j + 1 : Nat) : Int) by omega, show lo' + 1 + (j : Int) = lo' + ((j + 1 : Nat) : Int) by omega]
    exact this
theorem Ev2.wit {all : Bool} {p : Nat → Int → Option Bool} {q : Nat → ByteArray → Option Bool} : ∀ (l : List ByteArray) (i : Int), (∀ (j : Nat) (hj : j < l.length), Ev2 (fun k => p k (i + j)) (fun k => q k l[j])) → Ev2 (fun k => someL all (p k) l.length i) (fun k => (witQ (!all) (q k) l).bind fun r => Option.some (if all = true then !r.2 else r.2))
  | [], i, h => by
    unfold someL witQ
    cases all <;> exact Ev2.now _
  | s :: l, i, h => by
    have h0 := h 0 (by simp)
    rw [Int.ofNat_zero, Int.add_zero] at h0
    obtain ⟨b, h1, h2⟩ := h0
    obtain ⟨r, h3, h4⟩ := Ev2.wit (all := all) (p := p) (q := q) l (i + 1) (fun j hj => by
      have := h (j + 1) (by simp; omega)
      rw [show i + 1 + (j : Int) = i + ((j + 1 : Nat) : Int) by omega]
      exact this)
    simp only [List.length_cons, someL, witQ, Option.bind_assoc]
    by_cases hb : b = all
    · refine ⟨r, Ev.bind h1 ?_, Ev.bind h2 ?_⟩
      · simp only [if_pos hb]; exact h3
      · have : ¬ b = !all := by rw [hb]; cases all <;> simp
        simp only [if_neg this]; exact h4
    · have hb' : b = !all := by revert hb; cases b <;> cases all <;> simp
      refine ⟨!all, Ev.bind h1 ?_, Ev.bind h2 ?_⟩
      · simp only [if_neg hb]; exact Ev.now _
      · simp only [if_pos hb', Option.bind_some]
        cases all <;> exact Ev.now _
section world
variable (ds : List S73) (ts : List Int) (id : Int) (fs : List S62) (hw : ∀ d ∈ ds, wf73 d) (hd : ds.length < 4398046511104) (hdn : ∀ d ∈ ds, d.f1.length ≤ 1048576) (hl : ts.length ≤ 1048576) (ha : ts.Pairwise (· < ·)) (hid : id = 1 ∨ id = 2) (hfl : fs.length < 4398046511104)
include hw hd hdn hl ha hid hfl
theorem e2_truth : ∀ (n : Nat) (t : S32) (bnd : List ByteArray) (co m : Int), FormP n (bnd.length : Int) t → wf32 t → bulk32 t ≤ 1048576 → bnd.length + n ≤ 4398046511103 → (∀ s ∈ bnd, okS s = true) → okI co = true → okI m = true → Ev2 (fun k => truthG ds ts id fs k t bnd co m) (fun k => rtG ds ts id fs k t bnd co m)
  | 0, t, bnd, co, m, hg, _, _, _, _, _, _ => hg.elim
  | n + 1, t, bnd, co, m, hg, hwt, hbk, hn, hb, hco, hm => by
    obtain ⟨hf, hgk⟩ := hg
    obtain ⟨hf3, hf1, hf7⟩ := good_fields hf
    have hnm := wf_name hwt
    have hkl := bulk_kids t
    have sub : ∀ (j : Nat) (hj : j < t.f5.length) (bnd' : List ByteArray) (co' m' : Int), (bnd'.length : Int) = insN t (bnd.length : Int) → (∀ s ∈ bnd', okS s = true) → okI co' = true → okI m' = true → Ev2 (fun k => truthG ds ts id fs k t.f5[j] bnd' co' m') (fun k => rtG ds ts id fs k t.f5[j] bnd' co' m') := by
      intro j hj bnd' co' m' hlen hb' hco' hm'
      have hmem := List.getElem_mem hj
      refine e2_truth n t.f5[j] bnd' co' m' (by rw [hlen]; exact hgk _ hmem) (wf_kid hwt hmem) (by have := bulk_mem hmem; omega) ?_ hb' hco' hm'
      unfold insN at hlen
      split at hlen <;> omega
    have kid : t.f0 ≠ 8 → t.f0 ≠ 9 → ∀ (i : Int), 0 ≤ i → i < (t.f5.length : Int) → Ev2 (fun k => if 0 ≤ i ∧ i < (t.f5.length : Int) then truthG ds ts id fs k (rd_T32 t.f5 i) bnd co m else none) (fun k => if 0 ≤ i ∧ i < (t.f5.length : Int) then rtG ds ts id fs k (rd_T32 t.f5 i) bnd co m else none) := by
      intro h8 h9 i h0 h1
      obtain ⟨j, rfl⟩ := Int.eq_ofNat_of_zero_le h0
      refine Ev2.posL ⟨h0, h1⟩ (Ev2.posR ⟨h0, h1⟩ ?_)
      rw [rd32 (show j < t.f5.length by omega)]
      exact sub j (by omega) bnd co m (by unfold insN; rw [if_neg (by omega)]) hb hco hm
    have one : t.f0 ≠ 8 → t.f0 ≠ 9 → ∀ co' m' : Int, okI co' = true → okI m' = true → 0 < t.f5.length → Ev2 (fun k => truthG ds ts id fs k (rd_T32 t.f5 0) bnd co' m') (fun k => rtG ds ts id fs k (rd_T32 t.f5 0) bnd co' m') := by
      intro h8 h9 co' m' hc' hm' hk
      have e0 : rd_T32 t.f5 0 = t.f5[0] := rd32 hk
      rw [e0]
      exact sub 0 hk bnd co' m' (by unfold insN; rw [if_neg (by omega)]) hb hc' hm'
    refine Ev2.step (fun _ => truthG.eq_2 ..) (fun _ => rtG.eq_2 ..) ?_
    dsimp only
    refine Ev2.if_ (fun _ => Ev2.now _) (fun h1 => ?_)
    refine Ev2.if_ (fun h3 => ?_) (fun h3 => ?_)
    · obtain ⟨al, hal, hal'⟩ := args_some hb (by omega) t.f2 (hf3 h3).2 hnm.2
      have e1 : atomG fs t bnd co m = some (fs.any fun x => sameF x t.f1 al m co) := by
        unfold atomG
        rw [if_pos ⟨(hf3 h3).1, okS_b hnm.1, hm, hco⟩, hal, Option.bind_some, if_pos hal']
      have hA : AtomP (bnd.length : Int) t := by
        have := hf.2.2.2
        unfold OpP at this
        rw [if_neg (by omega), if_pos h3] at this
        exact this
      obtain ⟨r, hr, rfl⟩ := tv_atom ds ts id fs hfl t bnd co m hA hb (by omega) hnm.2 hal
      rw [e1]
      exact ⟨_, Ev.now _, hr⟩
    refine Ev2.if_ (fun h4 => ?_) (fun h4 => ?_)
    · have := hf1 (by omega)
      exact Ev2.bind (kid (by omega) (by omega) 0 (by omega) (by omega)) (fun b => Ev2.now _)
    refine Ev2.if_ (fun h5 => ?_) (fun h5 => ?_)
    · refine Ev2.posR (by omega) (Ev2.sm _ _ _ (fun j hj => ?_))
      rw [Int.zero_add]
      exact kid (by omega) (by omega) j (by omega) (by omega)
    refine Ev2.if_ (fun h6 => ?_) (fun h6 => ?_)
    · refine Ev2.posR (by omega) (Ev2.sm _ _ _ (fun j hj => ?_))
      rw [Int.zero_add]
      exact kid (by omega) (by omega) j (by omega) (by omega)
    refine Ev2.if_ (fun h7 => ?_) (fun h7 => ?_)
    · have := hf7 h7
      refine Ev2.bind (kid (by omega) (by omega) 0 (by omega) (by omega)) (fun b => Ev2.if_ (fun _ => ?_) (fun _ => Ev2.now _))
      exact kid (by omega) (by omega) 1 (by omega) (by omega)
    have io := ind_ok ds ts id hw hd (fun d hd => by have := hdn d hd; omega) (by omega) ha hid t.f1
    have bind_ : (t.f0 = 8 ∨ t.f0 = 9) → ∀ (j : Nat) (hj : j < (indN ds t.f1).1.length), 0 < t.f5.length → Ev2 (fun k => truthG ds ts id fs k (rd_T32 t.f5 0) (bnd ++ [rdOf ByteArray.empty (indN ds t.f1).1 (0 + (j : Int))]) co m) (fun k => rtG ds ts id fs k (rd_T32 t.f5 0) (bnd ++ [(indN ds t.f1).1[j]]) co m) := by
      intro h89 j hj hk
      have er : rdOf ByteArray.empty (indN ds t.f1).1 (0 + (j : Int)) = (indN ds t.f1).1[j] := by
        rw [Int.zero_add]
        unfold rdOf
        rw [Int.toNat_natCast, List.getD_eq_getElem?_getD, List.getElem?_eq_getElem hj]
        rfl
      have e0 : rd_T32 t.f5 0 = t.f5[0] := rd32 hk
      rw [er, e0]
      refine sub 0 hk _ co m (by unfold insN; rw [if_pos h89]; simp) (fun s hs => ?_) hco hm
      rcases List.mem_append.1 hs with hs | hs
      · exact hb s hs
      · obtain rfl := List.mem_singleton.1 hs
        exact io.2 _ (List.getElem_mem hj)
    refine Ev2.if_ (fun h8 => ?_) (fun h8 => ?_)
    · have := hf1 (by omega)
      refine Ev2.bindL (ev_ind ds ts id hd _) (Ev2.posL ⟨by omega, io.1, by omega⟩ ?_)
      have hw8 := Ev2.wit (all := true) (p := fun k i => truthG ds ts id fs k (rd_T32 t.f5 0) (bnd ++ [rdOf ByteArray.empty (indN ds t.f1).1 i]) co m) (q := fun k s => rtG ds ts id fs k (rd_T32 t.f5 0) (bnd ++ [s]) co m) (indN ds t.f1).1 0 (fun j hj => bind_ (.inl h8) j hj (by omega))
      obtain ⟨r, h1, h2⟩ := hw8
      refine ⟨r, h1, ?_⟩
      simp only [Option.bind_assoc]
      refine Ev.bind (ev_rind ds ts id hd _) ?_
      have hc : 0 < t.f5.length ∧ (indN ds t.f1).1.length < 4398046511104 ∧ bnd.length < 4398046511104 := ⟨by omega, io.1, by omega⟩
      simp only [if_pos hc]
      exact h2
    refine Ev2.if_ (fun h9 => ?_) (fun h9 => ?_)
    · have := hf1 (by omega)
      refine Ev2.bindL (ev_ind ds ts id hd _) (Ev2.posL ⟨by omega, io.1, by omega⟩ ?_)
      have hw9 := Ev2.wit (all := false) (p := fun k i => truthG ds ts id fs k (rd_T32 t.f5 0) (bnd ++ [rdOf ByteArray.empty (indN ds t.f1).1 i]) co m) (q := fun k s => rtG ds ts id fs k (rd_T32 t.f5 0) (bnd ++ [s]) co m) (indN ds t.f1).1 0 (fun j hj => bind_ (.inr h9) j hj (by omega))
      obtain ⟨r, h1, h2⟩ := hw9
      refine ⟨r, h1, ?_⟩
      simp only [Option.bind_assoc]
      refine Ev.bind (ev_rind ds ts id hd _) ?_
      have hc : 0 < t.f5.length ∧ (indN ds t.f1).1.length < 4398046511104 ∧ bnd.length < 4398046511104 := ⟨by omega, io.1, by omega⟩
      simp only [if_pos hc]
      exact h2
    refine Ev2.if_ (fun h10 => ?_) (fun h10 => ?_)
    · have := hf1 (by omega)
      have hbd := itv_bd ts t.f3 t.f4
      refine Ev2.bindL (ev_interval ds id ha (by omega) _ _) (Ev2.posL ⟨by omega, by omega, by omega⟩ ?_)
      refine Ev2.bindR (v := itvL ts t.f3 t.f4) (ev_refInterval ds ts id (by omega) _ _) ?_
      rw [itvL_eq]
      dsimp only
      rw [fromN_len]
      refine Ev2.posR ⟨by omega, by omega⟩ (Ev2.sm _ _ _ (fun j hj => ?_))
      have er : rd (fromN (itv ts t.f3 t.f4).1 ((itv ts t.f3 t.f4).2.1 - (itv ts t.f3 t.f4).1).toNat) (0 + (j : Int)) = (itv ts t.f3 t.f4).1 + (j : Int) := by
        rw [Int.zero_add]
        unfold rd fromN
        rw [Int.toNat_natCast, List.getD_eq_getElem?_getD, List.getElem?_map, List.getElem?_range hj]
        rfl
      rw [er]
      exact one (by omega) (by omega) co _ hco (okI_b (by omega) (by omega)) (by omega)
    refine Ev2.if_ (fun h11 => ?_) (fun h11 => ?_)
    · have := hf1 (by omega)
      refine Ev2.if_ (fun _ => Ev2.sm _ _ _ (fun j hj => one (by omega) (by omega) _ m (okI_b (by omega) (by omega)) hm (by omega))) (fun h => absurd ⟨by omega, by omega, by omega⟩ h)
    refine Ev2.if_ (fun h12 => ?_) (fun h12 => Ev2.now _)
    have := hf1 (by omega)
    exact Ev2.if_ (fun _ => Ev2.sm _ _ _ (fun j hj => one (by omega) (by omega) _ m (okI_b (by omega) (by omega)) hm (by omega))) (fun h => absurd ⟨by omega, by omega, by omega⟩ h)
end world
end Go.Proofs.YtolpckflofjfhaaDoor.En
