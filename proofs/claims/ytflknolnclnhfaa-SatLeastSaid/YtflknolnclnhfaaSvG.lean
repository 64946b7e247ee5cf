/- Plain facts on the reference's search: the first relevant input by a sweep, the search itself, what its Least answers. -/
import Derived.Test.YtflknolnclnhfaaPx0
import Derived.Test.YtflknolnclnhfaaPx10
import Derived.Test.YtflknolnclnhfaaPx11
import Derived.Test.YtflknolnclnhfaaPx12
import Derived.Test.YtflknolnclnhfaaSvE
namespace Go.Proofs.Ytflknolnclnhfaa.Sv
set_option linter.unusedVariables false
set_option linter.unusedSimpArgs false
open Go.RowKit Go.Proofs.Ytflknolnclnhfaa.P Go.Proofs.YtflknolnclnhfaaW.PrintWords Go.Proofs.YtflknolnclnhfaaW.PrintLast

structure Sw (gs : List S52) (vs : List Int) (r : Nat) (i : Int) (rch : List Bool) (first : Int) : Prop where
  len : rch.length = gs.length
  rch_ : ∀ j : Nat, rch.getD j false = true → Rch gs vs r j
  top : rch.getD r false = true
  clo : ∀ j : Nat, i < (j : Int) → rch.getD j false = true → rd vs (j : Int) = 2 → ∀ k ∈ (rd_T52 gs j).f2, rch.getD k.toNat false = true
  low : ∀ j : Nat, i < (j : Int) → rch.getD j false = true → rd vs (j : Int) = 2 → (rd_T52 gs j).f0 = 3 → 0 ≤ first ∧ first ≤ (rd_T52 gs j).f1
  at_ : first = -1 ∨ ∃ j : Nat, i < (j : Int) ∧ rch.getD j false = true ∧ rd vs (j : Int) = 2 ∧ (rd_T52 gs j).f0 = 3 ∧ first = (rd_T52 gs j).f1
def setAll : List Bool → List Int → List Bool
  | l, [] => l
  | l, k :: ks => setAll (l.set k.toNat true) ks
theorem setAll_length : ∀ (ks : List Int) (l : List Bool), (setAll l ks).length = l.length
  | [], _ => rfl
  | k :: ks, l => by rw [setAll, setAll_length ks, List.length_set]
theorem setAll_get : ∀ (ks : List Int) (l : List Bool), (∀ k ∈ ks, 0 ≤ k ∧ k < (l.length : Int)) → ∀ j, (setAll l ks).getD j false = true ↔ l.getD j false = true ∨ ∃ k ∈ ks, k.toNat = j
  | [], l, _, j => by simp [setAll]
  | k :: ks, l, h, j => by
    have hk := h k List.mem_cons_self
    rw [setAll, setAll_get ks _ (fun x hx => by rw [List.length_set]; exact h x (List.mem_cons_of_mem _ hx)) j, getD_set (by omega)]
    constructor
    · rintro ((h1 | rfl) | ⟨x, hx, e⟩)
      · exact .inl h1
      · exact .inr ⟨k, List.mem_cons_self, rfl⟩
      · exact .inr ⟨x, List.mem_cons_of_mem _ hx, e⟩
    · rintro (h1 | ⟨x, hx, e⟩)
      · exact .inl (.inl h1)
      · rcases List.mem_cons.1 hx with rfl | hx
        · exact .inl (.inr e.symm)
        · exact .inr ⟨x, hx, e⟩
theorem in_len {rch : List Bool} {n j : Nat} (h : rch.length = n) (hj : rch.getD j false = true) : j < n := by
  rcases Nat.lt_or_ge j n with q | q
  · exact q
  · simp [List.getD_eq_getElem?_getD, List.getElem?_eq_none (show rch.length ≤ j by omega)] at hj
theorem first_kids (n0 : Int) (gs : List S52) (n2 : Int) (vs : List Int) (first i : Int) (ks : List Int) (hks : ks.length ≤ 50) (r : Int) : ∀ (t : List Int) (j : Nat) (rch : List Bool), ks.drop j = t → j ≤ ks.length → (∀ k ∈ t, 0 ≤ k ∧ k < (rch.length : Int)) →
    Ev (fun k => pentaglotref28_First.l0 k vs (setAll rch t) first (wrap64 (i - 1)) n0 gs n2) r → Ev (fun k => pentaglotref28_First.l1 k vs rch first i ks (ks.length : Int) (j : Int) n0 gs n2) r := by
  intro t
  induction t with
  | nil =>
    intro j rch h hj hk hr
    have := rest_nil hj h
    refine Ev.step (fun k => ?_) hr
    simp only [pentaglotref28_First.l1]
    rw [if_neg (by omega)]
    rfl
  | cons x t ih =>
    intro j rch h hj hk hr
    obtain ⟨h1, h2, h3⟩ := rest h
    have hx := hk x List.mem_cons_self
    refine Ev.step (fun k => ?_) (ih (j + 1) (rch.set x.toNat true) h3 (by omega) (fun y hy => by rw [List.length_set]; exact hk y (List.mem_cons_of_mem _ hy)) hr)
    simp only [pentaglotref28_First.l1, h2]
    rw [if_pos (by omega), if_pos (by omega), if_pos (by omega), if_pos hx.1, if_pos hx.2, w64 (x := (j : Int) + 1) (by omega) (by omega)]
    rfl
theorem sweep {n0 : Int} {gs : List S52} {n2 : Int} (h : okC n0 gs n2 = true) (hs : Sm gs) {vs : List Int} (hvl : vs.length = gs.length) : ∀ (d : Nat) (i : Int) (rch : List Bool) (first : Int), i + 1 = (d : Int) → i < (gs.length : Int) → Sw gs vs n2.toNat i rch first →
    ∃ m, Ev (fun k => pentaglotref28_First.l0 k vs rch first i n0 gs n2) m ∧ ∃ rch', Sw gs vs n2.toNat (-1) rch' m := by
  have hgl := hs.1
  intro d
  induction d with
  | zero =>
    intro i rch first hi hig hS
    obtain rfl : i = -1 := by omega
    refine ⟨first, Ev.step (f := fun _ => some first) (fun k => ?_) (Ev.now _), rch, hS⟩
    simp only [pentaglotref28_First.l0]
    rw [if_neg (by decide)]
  | succ d ih =>
    intro i rch first hi hig hS
    obtain rfl : i = (d : Int) := by omega
    have hlen := hS.len
    have hw : wrap64 ((d : Int) - 1) = (d : Int) - 1 := w64 (by omega) (by omega)
    have skip : (∀ j : Nat, (j : Int) = (d : Int) → ¬ (rch.getD j false = true ∧ rd vs (j : Int) = 2)) → ∃ m, Ev (fun k => pentaglotref28_First.j1 k vs rch first (d : Int) true n0 gs n2) m ∧ ∃ rch', Sw gs vs n2.toNat (-1) rch' m := fun hno => by
      have hstep : ∀ j : Nat, (d : Int) - 1 < (j : Int) → rch.getD j false = true → rd vs (j : Int) = 2 → (d : Int) < (j : Int) := fun j hj h1 h2 => by
        rcases Int.lt_or_le (d : Int) (j : Int) with h3 | h3
        · exact h3
        · exact absurd ⟨h1, h2⟩ (hno j (by omega))
      obtain ⟨m, hm, hx⟩ := ih ((d : Int) - 1) rch first (by omega) (by omega) ⟨hS.len, hS.rch_, hS.top, fun j hj h1 h2 => hS.clo j (hstep j hj h1 h2) h1 h2, fun j hj h1 h2 => hS.low j (hstep j hj h1 h2) h1 h2, by
        rcases hS.at_ with e | ⟨j, j1, j2⟩
        · exact .inl e
        · exact .inr ⟨j, by omega, j2⟩⟩
      refine ⟨m, Ev.step (fun k => ?_) hm, hx⟩
      simp only [pentaglotref28_First.j1, if_true]
      rw [hw]
    have hrd : rdOf false rch (d : Int) = rch.getD d false := by unfold rdOf; rw [Int.toNat_natCast]
    by_cases hr : rch.getD d false = true
    · by_cases hv : rd vs (d : Int) = 2
      · -- a gate that is looked at
        have hdl : d < gs.length := by omega
        have hkl := rd52_kids hs d
        have hkid : ∀ k ∈ (rd_T52 gs d).f2, 0 ≤ k ∧ k < (rch.length : Int) := fun k hk => by have := gate_kids h hdl hk; omega
        have hget := setAll_get (rd_T52 gs d).f2 rch hkid
        have step : ∀ first', (first' = first ∧ (rd_T52 gs d).f0 ≠ 3) ∨ (first' = first ∧ (rd_T52 gs d).f0 = 3 ∧ 0 ≤ first ∧ first ≤ (rd_T52 gs d).f1) ∨ (first' = (rd_T52 gs d).f1 ∧ (rd_T52 gs d).f0 = 3 ∧ (first = -1 ∨ (rd_T52 gs d).f1 < first)) →
            ∃ m, Ev (fun k => pentaglotref28_First.l1 k vs rch first' (d : Int) (rd_T52 gs d).f2 ((rd_T52 gs d).f2.length : Int) 0 n0 gs n2) m ∧ ∃ rch', Sw gs vs n2.toNat (-1) rch' m := by
          intro first' hf
          have hkeep : ∀ j, rch.getD j false = true → (setAll rch (rd_T52 gs d).f2).getD j false = true := fun j hj => (hget j).2 (.inl hj)
          have hback : ∀ j : Nat, (d : Int) - 1 < (j : Int) → (setAll rch (rd_T52 gs d).f2).getD j false = true → rch.getD j false = true := fun j hj h1 => by
            rcases (hget j).1 h1 with h2 | ⟨k, hk, e⟩
            · exact h2
            · have := gate_kids h hdl hk; omega
          obtain ⟨m, hm, hx⟩ := ih ((d : Int) - 1) (setAll rch (rd_T52 gs d).f2) first' (by omega) (by omega) ⟨(setAll_length _ _).trans hS.len, fun j hj => by
              rcases (hget j).1 hj with h2 | ⟨k, hk, e⟩
              · exact hS.rch_ j h2
              · obtain ⟨k0, _⟩ := hkid k hk
                obtain ⟨k, rfl⟩ := Int.eq_ofNat_of_zero_le k0
                rw [Int.toNat_natCast] at e
                subst e
                exact .kid (hS.rch_ d hr) hv hk, hkeep _ hS.top, fun j hj h1 h2 k hk => by
              rcases Int.lt_or_le (d : Int) (j : Int) with h3 | h3
              · exact hkeep _ (hS.clo j h3 (hback j hj h1) h2 k hk)
              · obtain rfl : j = d := by omega
                exact (hget _).2 (.inr ⟨k, hk, rfl⟩), fun j hj h1 h2 h3 => by
              have hg := gate_in h (in_len hS.len (hback j hj h1)) h3
              rcases Int.lt_or_le (d : Int) (j : Int) with h4 | h4
              · have := hS.low j h4 (hback j hj h1) h2 h3
                rcases hf with ⟨e, _⟩ | ⟨e, _, e2, e3⟩ | ⟨e, e1, e2⟩
                · omega
                · omega
                · have hg2 := gate_in h hdl e1
                  omega
              · obtain rfl : j = d := by omega
                rcases hf with ⟨e, e1⟩ | ⟨e, _, e2, e3⟩ | ⟨e, _, e2⟩
                · exact absurd h3 e1
                · omega
                · omega, by
              rcases hf with ⟨e, e1⟩ | ⟨e, _, e2, e3⟩ | ⟨e, e1, e2⟩
              · rcases hS.at_ with e' | ⟨j, j1, j2, j3⟩
                · exact .inl (by omega)
                · exact .inr ⟨j, by omega, hkeep j j2, by rw [e]; exact j3⟩
              · rcases hS.at_ with e' | ⟨j, j1, j2, j3⟩
                · omega
                · exact .inr ⟨j, by omega, hkeep j j2, by rw [e]; exact j3⟩
              · exact .inr ⟨d, by omega, hkeep d hr, hv, e1, e⟩⟩
          rw [← hw] at hm
          exact ⟨m, first_kids n0 gs n2 vs first' (d : Int) (rd_T52 gs d).f2 hkl m _ 0 rch rfl (Nat.zero_le _) hkid hm, hx⟩
        have entry : ∀ (m : Int) (g : Nat → Option Int), Ev g m → (∀ k, pentaglotref28_First.j1 (k + 1) vs rch first (d : Int) false n0 gs n2 = g k) → Ev (fun k => pentaglotref28_First.l0 k vs rch first (d : Int) n0 gs n2) m := fun m g hg hj => by
          refine Ev.step (f := fun k => pentaglotref28_First.j1 k vs rch first (d : Int) false n0 gs n2) (fun k => ?_) (Ev.step hj hg)
          simp only [pentaglotref28_First.l0, hrd, hr, hv]
          rw [if_pos (by omega), if_pos (by omega), if_pos (by omega), if_pos trivial, if_pos (by omega)]
          rfl
        have hj2 : ∀ (x : Bool) (m : Int), Ev (fun k => pentaglotref28_First.l1 k vs rch (if x = true then (rd_T52 gs d).f1 else first) (d : Int) (rd_T52 gs d).f2 ((rd_T52 gs d).f2.length : Int) 0 n0 gs n2) m → Ev (fun k => pentaglotref28_First.j2 k vs rch first (d : Int) x n0 gs n2 (rd_T52 gs d).f0 (rd_T52 gs d).f1 (rd_T52 gs d).f2) m := fun x m hm => by
          refine Ev.step (f := fun k => pentaglotref28_First.j3 k vs rch (if x = true then (rd_T52 gs d).f1 else first) (d : Int) n0 gs n2 (rd_T52 gs d).f0 (rd_T52 gs d).f1 (rd_T52 gs d).f2) (fun k => ?_) (Ev.step (fun k => by simp only [pentaglotref28_First.j3]) hm)
          simp only [pentaglotref28_First.j2]
          cases x <;> simp
        by_cases h3 : (rd_T52 gs d).f0 = 3
        · have hg := gate_in h hdl h3
          by_cases hf : first < 0
          · have hf1 : first = -1 := by
              rcases hS.at_ with e | ⟨j, j1, j2, j3, j4, j5⟩
              · exact e
              · have hjl : j < gs.length := in_len hS.len j2
                have := gate_in h hjl j4
                omega
            obtain ⟨m, hm, hx⟩ := step (rd_T52 gs d).f1 (.inr (.inr ⟨rfl, h3, .inl hf1⟩))
            refine ⟨m, entry m _ (hj2 true m (by simpa using hm)) (fun k => ?_), hx⟩
            simp only [pentaglotref28_First.j1, Bool.false_eq_true, if_false]
            rw [if_pos (by omega), if_pos (by omega), if_pos h3, if_pos hf]
          · by_cases hlt : (rd_T52 gs d).f1 < first
            · obtain ⟨m, hm, hx⟩ := step (rd_T52 gs d).f1 (.inr (.inr ⟨rfl, h3, .inr hlt⟩))
              refine ⟨m, entry m _ (hj2 true m (by simpa using hm)) (fun k => ?_), hx⟩
              simp only [pentaglotref28_First.j1, Bool.false_eq_true, if_false]
              rw [if_pos (by omega), if_pos (by omega), if_pos h3, if_neg hf, decide_eq_true hlt]
            · obtain ⟨m, hm, hx⟩ := step first (.inr (.inl ⟨rfl, h3, by omega, by omega⟩))
              refine ⟨m, entry m _ (hj2 false m (by simpa using hm)) (fun k => ?_), hx⟩
              simp only [pentaglotref28_First.j1, Bool.false_eq_true, if_false]
              rw [if_pos (by omega), if_pos (by omega), if_pos h3, if_neg hf, decide_eq_false hlt]
        · obtain ⟨m, hm, hx⟩ := step first (.inl ⟨rfl, h3⟩)
          refine ⟨m, entry m _ (hj2 false m (by simpa using hm)) (fun k => ?_), hx⟩
          simp only [pentaglotref28_First.j1, Bool.false_eq_true, if_false]
          rw [if_pos (by omega), if_pos (by omega), if_neg h3]
      · obtain ⟨m, hm, hx⟩ := skip (fun j hj hh => by obtain rfl : j = d := (by omega); exact hv hh.2)
        refine ⟨m, Ev.step (fun k => ?_) hm, hx⟩
        simp only [pentaglotref28_First.l0, hrd, hr]
        rw [if_pos (by omega), if_pos (by omega), if_pos (by omega), if_pos trivial, if_pos (by omega), show (rd vs (d : Int) != 2) = true by simp [hv]]
    · obtain ⟨m, hm, hx⟩ := skip (fun j hj hh => by obtain rfl : j = d := (by omega); exact hr hh.1)
      refine ⟨m, Ev.step (fun k => ?_) hm, hx⟩
      simp only [pentaglotref28_First.l0, hrd]
      rw [if_pos (by omega), if_pos (by omega), if_pos (by omega), if_neg hr]
theorem rfirst {n0 : Int} {gs : List S52} {n2 : Int} (h : okC n0 gs n2 = true) (hs : Sm gs) {bits : List Int} (hb : (bits.length : Int) = n0) (ht : Tri bits) (ho : out3 gs n2 bits = 2) : ∃ m, Ev (fun k => pentaglotref28_First.f k n0 gs n2 bits) m ∧ IsFirst gs (valsG bits gs []) n2.toNat n0 m := by
  obtain ⟨_, _, _, _, h5, h6, h7⟩ := okC_iff.1 h
  have hgl := hs.1
  have hvl : (valsG bits gs []).length = gs.length := by rw [valsG_length]; simp
  have hr0 : ∀ j, ((List.replicate gs.length false).set n2.toNat true).getD j false = true ↔ j = n2.toNat := fun j => by
    rw [getD_set (by simp; omega)]
    constructor
    · rintro (h1 | h1)
      · rw [List.getD_eq_getElem?_getD, List.getElem?_replicate] at h1
        split at h1 <;> simp at h1
      · exact h1
    · exact .inr
  obtain ⟨m, hm, rch, hS⟩ := sweep h hs hvl (n2.toNat + 1) n2 ((List.replicate gs.length false).set n2.toNat true) (-1) (by omega) h6 ⟨by simp, fun j hj => by rw [(hr0 j).1 hj]; exact .root, (hr0 _).2 rfl, fun j hj h1 => by have := (hr0 j).1 h1; omega, fun j hj h1 => by have := (hr0 j).1 h1; omega, .inl rfl⟩
  refine ⟨m, ?_, ?_⟩
  · unfold pentaglotref28_First.f
    refine Ev.bind (rvals hs h hb ht) ?_
    simp only [Option.bind_some, Int.toNat_natCast, if_pos (by omega : 0 ≤ (gs.length : Int)), if_pos (by omega : gs.length ≤ 281474976710656), if_pos h5]
    simp only [if_pos (show n2 < (((List.replicate gs.length false).length : Nat) : Int) by simp; omega)]
    exact hm
  · have all : ∀ i, Rch gs (valsG bits gs []) n2.toNat i → rch.getD i false = true := by
      intro i hr
      induction hr with
      | root => exact hS.top
      | kid hr h2 hk ih =>
        have := hS.clo _ (by omega) ih h2 _ hk
        simpa using this
    have ho' : rd (valsG bits gs []) (n2.toNat : Int) = 2 := by rw [Int.toNat_of_nonneg h5]; exact ho
    obtain ⟨j, hj1, hj2, hj3⟩ := exists_in h ht n2.toNat _ n2.toNat (Nat.lt_succ_self _) (by omega) .root ho'
    refine ⟨fun i i1 i2 i3 => (hS.low i (by omega) (all i i1) i2 i3).2, ?_⟩
    rcases hS.at_ with e | ⟨i, i1, i2, i3, i4, i5⟩
    · have := (hS.low j (by omega) (all j hj1) hj2 hj3).1
      omega
    · exact .inr ⟨i, hS.rch_ i i2, i3, i4, i5⟩
/-- The reference's search. -/
def lookRes' (budget count : Int) (r : Option (List Int)) (c : Nat) (x : (List Int × Bool) × Int × Bool) : Prop :=
  if count + c ≤ budget then (match r with | some b => x = ((b, true), count + c, false) | none => x.1.2 = false ∧ x.2 = (count + c, false)) else x.1.2 = false ∧ x.2.2 = true
theorem rlook_of {n0 : Int} {gs : List S52} {n2 : Int} (h : okC n0 gs n2 = true) (hs : Sm gs) (budget : Int) (hbu : budget ≤ 1048576) {bits : List Int} {r : Option (List Int)} {c : Nat} (hr : Srch gs n0 n2 bits r c) : Tri bits → (bits.length : Int) = n0 →
    ∃ F, 1 ≤ F ∧ ∀ f, F ≤ f → ∀ k, F ≤ k → ∀ (count : Int), 0 ≤ count → count ≤ budget →
      ∃ x, lookR k n0 gs n2 budget f bits count false = some x ∧ lookRes' budget count r c x := by
  obtain ⟨_, hn, _⟩ := okC_iff.1 h
  have over : ∀ (bits : List Int) (f k : Nat), lookR k n0 gs n2 budget (f + 1) bits budget false = some (([], false), budget, true) := fun bits f k => by rw [lookR, if_pos (.inr rfl)]
  have over2 : ∀ (bits : List Int) (f k : Nat) (ct : Int), lookR k n0 gs n2 budget (f + 1) bits ct true = some (([], false), ct, true) := fun bits f k ct => by rw [lookR, if_pos (.inl rfl)]
  have head : ∀ (bits : List Int) (v : Int) (f k : Nat) (count : Int), pentaglotref28_Three.f k n0 gs n2 bits = some v → 0 ≤ count → count ≤ budget → count ≠ budget →
      lookR k n0 gs n2 budget (f + 1) bits count false = (if v ≠ 2 then some ((bits, v == 1), count + 1, false)
    else (pentaglotref28_First.f k n0 gs n2 bits).bind fun i => if 0 ≤ i ∧ i < (bits.length : Int) ∧ bits.length ≤ 1000000 then
      (lookR k n0 gs n2 budget f (bits.set i.toNat 0) (count + 1) false).bind fun r1 => if r1.1.2 = true then some r1 else
        (lookR k n0 gs n2 budget f (bits.set i.toNat 1) r1.2.1 r1.2.2).bind fun r2 => if r2.1.2 = true then some r2 else some (([], false), r2.2)
    else none) := by
    intro bits v f k count hv h0 h1 hne
    rw [lookR, if_neg (by rintro (e | e); cases e; exact hne e), hv, Option.bind_some, w64 (by omega) (by omega)]
  induction hr with
  | @no bits h0 =>
    intro ht hl
    obtain ⟨K, hK⟩ := rthree hs h hl ht
    refine ⟨K + 1, by omega, fun f hf k hk count l0 l1 => ?_⟩
    obtain ⟨f, rfl⟩ : ∃ g, f = g + 1 := ⟨f - 1, by omega⟩
    by_cases hb : count = budget
    · subst hb
      exact ⟨_, over _ _ _, by unfold lookRes'; rw [if_neg (by omega)]; exact ⟨rfl, rfl⟩⟩
    · refine ⟨_, (head bits _ f k count (hK k (by omega)) l0 l1 hb).trans (if_pos (by omega)), ?_⟩
      unfold lookRes'
      rw [if_pos (by omega)]
      exact ⟨by rw [h0]; rfl, rfl⟩
  | @yes bits h1' =>
    intro ht hl
    obtain ⟨K, hK⟩ := rthree hs h hl ht
    refine ⟨K + 1, by omega, fun f hf k hk count l0 l1 => ?_⟩
    obtain ⟨f, rfl⟩ : ∃ g, f = g + 1 := ⟨f - 1, by omega⟩
    by_cases hb : count = budget
    · subst hb
      exact ⟨_, over _ _ _, by unfold lookRes'; rw [if_neg (by omega)]; exact ⟨rfl, rfl⟩⟩
    · refine ⟨_, (head bits _ f k count (hK k (by omega)) l0 l1 hb).trans (if_pos (by omega)), ?_⟩
      unfold lookRes'
      rw [if_pos (by omega), h1']
      rfl
  | @left bits m b c h2 hm hr ih =>
    intro ht hl
    obtain ⟨K, hK⟩ := rthree hs h hl ht
    obtain ⟨m', ⟨K', hK'⟩, e2⟩ := rfirst h hs hl ht h2
    obtain rfl := first_unique h ht h2 e2 hm (Int.le_refl _) (Int.le_refl _)
    obtain ⟨F, hF1, hF⟩ := ih (tri_set ht _ (by decide) (by decide)) (by rw [List.length_set]; exact hl)
    obtain ⟨m0, m1, m2⟩ := first_at h ht h2 hm
    refine ⟨F + K + K' + 1, by omega, fun f hf k hk count l0 l1 => ?_⟩
    obtain ⟨f, rfl⟩ : ∃ g, f = g + 1 := ⟨f - 1, by omega⟩
    have hc := hr.pos
    by_cases hb : count = budget
    · subst hb
      exact ⟨_, over _ _ _, by unfold lookRes'; rw [if_neg (by omega)]; exact ⟨rfl, rfl⟩⟩
    · obtain ⟨x, hx, hres⟩ := hF f (by omega) k (by omega) (count + 1) (by omega) (by omega)
      have hd := head bits _ f k count (hK k (by omega)) l0 l1 hb
      have hk2 : pentaglotref28_First.f k n0 gs n2 bits = some m' := hK' k (by omega)
      rw [if_neg (by rw [h2]; decide), hk2, Option.bind_some, if_pos (by omega), hx, Option.bind_some] at hd
      unfold lookRes' at hres
      by_cases hq : count + 1 + (c : Int) ≤ budget
      · rw [if_pos hq] at hres
        have hres : x = ((b, true), count + 1 + (c : Int), false) := hres
        subst hres
        rw [if_pos rfl] at hd
        refine ⟨_, hd, ?_⟩
        unfold lookRes'
        rw [if_pos (by omega)]
        show ((b, true), count + 1 + (c : Int), false) = ((b, true), count + ((1 + c : Nat) : Int), false)
        rw [show count + 1 + (c : Int) = count + ((1 + c : Nat) : Int) by omega]
      · rw [if_neg hq] at hres
        obtain ⟨⟨x1, x2⟩, x3, x4⟩ := x
        obtain ⟨q1, q2⟩ := hres
        have q1 : x2 = false := q1
        have q2 : x4 = true := q2
        subst q1 q2
        obtain ⟨f, rfl⟩ : ∃ g, f = g + 1 := ⟨f - 1, by omega⟩
        rw [if_neg (by simp), over2, Option.bind_some, if_neg (by simp)] at hd
        refine ⟨_, hd, ?_⟩
        unfold lookRes'
        rw [if_neg (by omega)]
        exact ⟨rfl, rfl⟩
  | @right bits m r c c' h2 hm hr hr' ih ih' =>
    intro ht hl
    obtain ⟨K, hK⟩ := rthree hs h hl ht
    obtain ⟨m', ⟨K', hK'⟩, e2⟩ := rfirst h hs hl ht h2
    obtain rfl := first_unique h ht h2 e2 hm (Int.le_refl _) (Int.le_refl _)
    obtain ⟨F, hF1, hF⟩ := ih (tri_set ht _ (by decide) (by decide)) (by rw [List.length_set]; exact hl)
    obtain ⟨F', hF1', hF'⟩ := ih' (tri_set ht _ (by decide) (by decide)) (by rw [List.length_set]; exact hl)
    obtain ⟨m0, m1, m2⟩ := first_at h ht h2 hm
    refine ⟨F + F' + K + K' + 1, by omega, fun f hf k hk count l0 l1 => ?_⟩
    obtain ⟨f, rfl⟩ : ∃ g, f = g + 1 := ⟨f - 1, by omega⟩
    have hc := hr.pos
    have hc' := hr'.pos
    by_cases hb : count = budget
    · subst hb
      exact ⟨_, over _ _ _, by unfold lookRes'; rw [if_neg (by omega)]; exact ⟨rfl, rfl⟩⟩
    · obtain ⟨x, hx, hres⟩ := hF f (by omega) k (by omega) (count + 1) (by omega) (by omega)
      have hd := head bits _ f k count (hK k (by omega)) l0 l1 hb
      have hk2 : pentaglotref28_First.f k n0 gs n2 bits = some m' := hK' k (by omega)
      rw [if_neg (by rw [h2]; decide), hk2, Option.bind_some, if_pos (by omega), hx, Option.bind_some] at hd
      unfold lookRes' at hres
      obtain ⟨⟨x1, x2⟩, x3, x4⟩ := x
      by_cases hq : count + 1 + (c : Int) ≤ budget
      · rw [if_pos hq] at hres
        obtain ⟨q1, q2⟩ := hres
        have q1 : x2 = false := q1
        injection q2 with q2 q3
        subst q1 q2 q3
        obtain ⟨y, hy, hres'⟩ := hF' f (by omega) k (by omega) (count + 1 + c) (by omega) (by omega)
        rw [if_neg (by simp), hy, Option.bind_some] at hd
        unfold lookRes' at hres'
        by_cases hq' : count + 1 + (c : Int) + (c' : Int) ≤ budget
        · rw [if_pos hq'] at hres'
          cases r with
          | some b =>
            have hres' : y = ((b, true), count + 1 + (c : Int) + (c' : Int), false) := hres'
            subst hres'
            rw [if_pos rfl] at hd
            refine ⟨_, hd, ?_⟩
            unfold lookRes'
            rw [if_pos (by omega)]
            show ((b, true), count + 1 + (c : Int) + (c' : Int), false) = ((b, true), count + ((1 + c + c' : Nat) : Int), false)
            rw [show count + 1 + (c : Int) + (c' : Int) = count + ((1 + c + c' : Nat) : Int) by omega]
          | none =>
            obtain ⟨p1, p2⟩ := hres'
            rw [if_neg (by rw [p1]; decide), p2] at hd
            refine ⟨_, hd, ?_⟩
            unfold lookRes'
            rw [if_pos (by omega)]
            refine ⟨rfl, ?_⟩
            show (count + 1 + (c : Int) + (c' : Int), false) = (count + ((1 + c + c' : Nat) : Int), false)
            rw [show count + 1 + (c : Int) + (c' : Int) = count + ((1 + c + c' : Nat) : Int) by omega]
        · rw [if_neg hq'] at hres'
          obtain ⟨p1, p2⟩ := hres'
          rw [if_neg (by rw [p1]; decide)] at hd
          refine ⟨_, hd, ?_⟩
          unfold lookRes'
          rw [if_neg (by omega)]
          exact ⟨rfl, p2⟩
      · rw [if_neg hq] at hres
        obtain ⟨q1, q2⟩ := hres
        have q1 : x2 = false := q1
        have q2 : x4 = true := q2
        subst q1 q2
        obtain ⟨f, rfl⟩ : ∃ g, f = g + 1 := ⟨f - 1, by omega⟩
        rw [if_neg (by simp), over2, Option.bind_some, if_neg (by simp)] at hd
        refine ⟨_, hd, ?_⟩
        unfold lookRes'
        rw [if_neg (by omega)]
        exact ⟨rfl, rfl⟩
theorem rleast_no (n0 : Int) (gs : List S52) (n2 : Int) (hs : Sm gs) (bits : List Int) (hl : bits.length ≤ 9223372036854775807) (budget : Int) (h : okP n0 gs n2 bits = false ∨ budget < 1 ∨ budget > 1048576) : Ev (fun k => pentaglotref28_Least.f k n0 gs n2 bits budget) ([], 0, 1) := by
  unfold pentaglotref28_Least.f
  refine Ev.bind (rpartial n0 gs n2 hs bits hl) ?_
  cases e : okP n0 gs n2 bits with
  | false => simp only [Bool.false_eq_true, if_false]; exact Ev.now _
  | true =>
    simp only [if_true]
    rw [e] at h
    by_cases h1 : budget < 1
    · simp only [if_pos h1]; exact Ev.now _
    · simp only [if_neg h1, if_pos (by rcases h with h | h | h; cases h; exact absurd h h1; exact h : budget > 1048576)]; exact Ev.now _
theorem rleast_of {n0 : Int} {gs : List S52} {n2 : Int} (hs : Sm gs) {bits : List Int} (h : okP n0 gs n2 bits = true) {budget : Int} (h1 : 1 ≤ budget) (h2 : budget ≤ 1048576) {r : Option (List Int)} {c : Nat} (hr : Srch gs n0 n2 bits r c) : Ev (fun k => pentaglotref28_Least.f k n0 gs n2 bits budget) (leastR budget r c) := by
  obtain ⟨ht, hc, hl⟩ := okP_iff.1 h
  obtain ⟨_, hn, _, _, _, _, _⟩ := okC_iff.1 hc
  unfold pentaglotref28_Least.f
  refine Ev.bind (rpartial n0 gs n2 hs bits (by omega)) ?_
  rw [h]
  simp only [if_true, if_neg (by omega : ¬ budget < 1), if_neg (by omega : ¬ budget > 1048576)]
  obtain ⟨F, _, hF⟩ := rlook_of hc hs budget h2 hr ht hl
  refine ⟨F, fun k hk => ?_⟩
  obtain ⟨x, hx, hres⟩ := hF k hk k hk 0 (by omega) (by omega)
  dsimp only
  rw [hx, Option.bind_some]
  unfold lookRes' at hres
  unfold leastR
  rw [Int.zero_add] at hres
  by_cases hq : (c : Int) ≤ budget
  · rw [if_pos hq] at hres ⊢
    cases r with
    | some b =>
      have hres : x = ((b, true), (c : Int), false) := hres
      subst hres
      obtain ⟨_, hb, _⟩ := hr.found hc ht hl b rfl
      rw [if_neg (by simp), if_neg (by simp), if_pos (by show b.length ≤ 1000000; omega)]
    | none =>
      obtain ⟨p1, p2⟩ := hres
      rw [if_neg (by rw [p2]; simp), if_pos p1]
  · rw [if_neg hq] at hres ⊢
    rw [if_pos hres.2]
end Go.Proofs.Ytflknolnclnhfaa.Sv
