/- Plain facts on the search of Least: what it finds and how many assignments it looks at; the budget. -/
import Derived.Test.YtflknolnclnhfaaPx0
import Derived.Test.YtflknolnclnhfaaPx3
import Derived.Test.YtflknolnclnhfaaPx4
import Derived.Test.YtflknolnclnhfaaSvD
namespace Go.Proofs.Ytflknolnclnhfaa.Sv
set_option linter.unusedVariables false
set_option linter.unusedSimpArgs false
open Go.RowKit Go.Proofs.Ytflknolnclnhfaa.P Go.Proofs.YtflknolnclnhfaaW.PrintWords Go.Proofs.YtflknolnclnhfaaW.PrintLast

/-- The search without a budget: what it finds, and how many partial assignments it looks at. -/
inductive Srch (gs : List S52) (n0 n2 : Int) : List Int → Option (List Int) → Nat → Prop
  | no {bits : List Int} : out3 gs n2 bits = 0 → Srch gs n0 n2 bits none 1
  | yes {bits : List Int} : out3 gs n2 bits = 1 → Srch gs n0 n2 bits (some bits) 1
  | left {bits : List Int} {m : Int} {b : List Int} {c : Nat} : out3 gs n2 bits = 2 → IsFirst gs (valsG bits gs []) n2.toNat n0 m → Srch gs n0 n2 (bits.set m.toNat 0) (some b) c → Srch gs n0 n2 bits (some b) (1 + c)
  | right {bits : List Int} {m : Int} {r : Option (List Int)} {c c' : Nat} : out3 gs n2 bits = 2 → IsFirst gs (valsG bits gs []) n2.toNat n0 m → Srch gs n0 n2 (bits.set m.toNat 0) none c → Srch gs n0 n2 (bits.set m.toNat 1) r c' → Srch gs n0 n2 bits r (1 + c + c')
def unk (l : List Int) : Nat := l.countP (fun x => x == 2)
theorem unk_set {l : List Int} {i : Nat} (hi : i < l.length) (h : l[i] = 2) {v : Int} (hv : v ≠ 2) : unk (l.set i v) + 1 = unk l := by
  unfold unk
  rw [List.countP_set hi]
  have h2 : (l[i] == 2) = true := by rw [h]; rfl
  have h3 : (v == 2) = false := by simpa using hv
  have pos : 0 < l.countP (fun x => x == 2) := List.countP_pos_iff.2 ⟨l[i], List.getElem_mem _, h2⟩
  simp only [h2, h3, if_true, Bool.false_eq_true, if_false]
  omega
theorem tri_set {l : List Int} (h : Tri l) (i : Nat) {v : Int} (h0 : 0 ≤ v) (h2 : v ≤ 2) : Tri (l.set i v) := fun x hx => by
  rcases List.mem_or_eq_of_mem_set hx with h' | rfl
  · exact h x h'
  · exact ⟨h0, h2⟩
theorem out3_tri {gs : List S52} {n2 : Int} {bits : List Int} (h : Tri bits) : 0 ≤ out3 gs n2 bits ∧ out3 gs n2 bits ≤ 2 := (valsG_tri h gs (vs := []) (fun v hv => by cases hv)).rd_ n2
theorem first_ex {n0 : Int} {gs : List S52} {n2 : Int} (h : okC n0 gs n2 = true) (hs : Sm gs) (bits : List Int) : ∃ m, IsFirst gs (valsG bits gs []) n2.toNat n0 m := by
  obtain ⟨m, _, hm⟩ := relF_of h hs (vs := valsG bits gs []) (by rw [valsG_length]; simp) (Nat.le_refl 4000)
  exact ⟨m, hm⟩
theorem srch_ex {n0 : Int} {gs : List S52} {n2 : Int} (h : okC n0 gs n2 = true) (hs : Sm gs) : ∀ (u : Nat) (bits : List Int), unk bits ≤ u → Tri bits → (bits.length : Int) = n0 → ∃ r c, Srch gs n0 n2 bits r c := by
  intro u
  induction u with
  | zero =>
    intro bits hu ht hl
    by_cases h2 : out3 gs n2 bits = 2
    · obtain ⟨m, hm⟩ := first_ex h hs bits
      obtain ⟨m0, m1, m2⟩ := first_at h ht h2 hm
      have hi : m.toNat < bits.length := by omega
      have hb : bits[m.toNat] = 2 := by rw [← rd_at bits m.toNat hi, Int.toNat_of_nonneg m0]; exact m2
      have := unk_set hi hb (v := 0) (by decide)
      omega
    · have := out3_tri (gs := gs) (n2 := n2) ht
      by_cases h0 : out3 gs n2 bits = 0
      · exact ⟨_, _, .no h0⟩
      · exact ⟨_, _, .yes (by omega)⟩
  | succ u ih =>
    intro bits hu ht hl
    by_cases h2 : out3 gs n2 bits = 2
    · obtain ⟨m, hm⟩ := first_ex h hs bits
      obtain ⟨m0, m1, m2⟩ := first_at h ht h2 hm
      have hi : m.toNat < bits.length := by omega
      have hb : bits[m.toNat] = 2 := by rw [← rd_at bits m.toNat hi, Int.toNat_of_nonneg m0]; exact m2
      have q0 := unk_set hi hb (v := 0) (by decide)
      have q1 := unk_set hi hb (v := 1) (by decide)
      obtain ⟨r, c, hr⟩ := ih (bits.set m.toNat 0) (by omega) (tri_set ht _ (by decide) (by decide)) (by rw [List.length_set]; exact hl)
      cases r with
      | some b => exact ⟨_, _, .left h2 hm hr⟩
      | none =>
        obtain ⟨r', c', hr'⟩ := ih (bits.set m.toNat 1) (by omega) (tri_set ht _ (by decide) (by decide)) (by rw [List.length_set]; exact hl)
        exact ⟨_, _, .right h2 hm hr hr'⟩
    · have := out3_tri (gs := gs) (n2 := n2) ht
      by_cases h0 : out3 gs n2 bits = 0
      · exact ⟨_, _, .no h0⟩
      · exact ⟨_, _, .yes (by omega)⟩
theorem Srch.pos {gs : List S52} {n0 n2 : Int} {bits : List Int} {r : Option (List Int)} {c : Nat} (h : Srch gs n0 n2 bits r c) : 1 ≤ c := by
  cases h <;> omega
/-- What is found refines what was there, and its output is true. -/
theorem Srch.found {gs : List S52} {n0 n2 : Int} (h : okC n0 gs n2 = true) {bits : List Int} {r : Option (List Int)} {c : Nat} (hr : Srch gs n0 n2 bits r c) : Tri bits → (bits.length : Int) = n0 → ∀ b, r = some b → Tri b ∧ (b.length : Int) = n0 ∧ out3 gs n2 b = 1 := by
  induction hr with
  | no h0 => intro _ _ b hb; cases hb
  | yes h1 => intro ht hl b hb; cases hb; exact ⟨ht, hl, h1⟩
  | left h2 hm hr ih => intro ht hl b hb; exact ih (tri_set ht _ (by decide) (by decide)) (by rw [List.length_set]; exact hl) b hb
  | right h2 hm hr hr' ih ih' => intro ht hl b hb; exact ih' (tri_set ht _ (by decide) (by decide)) (by rw [List.length_set]; exact hl) b hb
theorem set_back {l : List Int} {i : Nat} (hi : i < l.length) (h : l[i] = 2) (v : Int) : (l.set i v).set i 2 = l := by
  rw [List.set_set, ← h, List.set_getElem_self]
/-- The program's search. -/
def lookRes (bits : List Int) (budget looked : Int) (r : Option (List Int)) (c : Nat) (x : Int × List Int × Int × List Int) : Prop :=
  if looked + c ≤ budget then (match r with | some b => x.1 = 0 ∧ x.2.1 = b ∧ x.2.2.1 = looked + c | none => x.1 = 4 ∧ x.2.1 = bits ∧ x.2.2.1 = looked + c) else x.1 = 7
theorem look_of {n0 : Int} {gs : List S52} {n2 : Int} (h : okC n0 gs n2 = true) (hs : Sm gs) (budget : Int) (hbu : budget ≤ 1048576) {bits : List Int} {r : Option (List Int)} {c : Nat} (hr : Srch gs n0 n2 bits r c) : Tri bits → (bits.length : Int) = n0 →
    ∃ F, ∀ f, F ≤ f → ∀ kf, 4000 ≤ kf → ∀ (looked : Int) (vs : List Int), 0 ≤ looked → looked ≤ budget → vs.length = gs.length →
      ∃ x, lookF kf gs n0 n2 budget f bits looked vs = some x ∧ x.2.1.length = bits.length ∧ x.2.2.2.length = gs.length ∧ lookRes bits budget looked r c x := by
  have head : ∀ (bits : List Int) (f kf : Nat) (looked : Int) (vs : List Int), Tri bits → (bits.length : Int) = n0 → 0 ≤ looked → looked ≤ budget → vs.length = gs.length → looked ≠ budget →
      lookF kf gs n0 n2 budget (f + 1) bits looked vs = (if out3 gs n2 bits = 0 then some (4, bits, looked + 1, valsG bits gs []) else if out3 gs n2 bits = 1 then some (0, bits, looked + 1, valsG bits gs []) else (relF kf gs n0 n2 (valsG bits gs [])).bind fun nx =>
        if 0 ≤ nx ∧ nx < (bits.length : Int) then
          (lookF kf gs n0 n2 budget f (bits.set nx.toNat 0) (looked + 1) (valsG bits gs [])).bind fun r1 =>
            if r1.1 = 4 then
              (if nx < (r1.2.1.length : Int) then
                (lookF kf gs n0 n2 budget f (r1.2.1.set nx.toNat 1) r1.2.2.1 r1.2.2.2).bind fun r2 =>
                  if r2.1 = 4 then (if nx < (r2.2.1.length : Int) then some (4, r2.2.1.set nx.toNat 2, r2.2.2.1, r2.2.2.2) else none)
                  else some r2
              else none)
            else some r1
        else none) := by
    intro bits f kf looked vs ht hl h0 h1 hv hne
    rw [lookF, if_neg hne, outF_val h hl ht vs hv, Option.bind_some, w64 (by omega) (by omega)]
    rfl
  have over : ∀ (bits : List Int) (f kf : Nat) (vs : List Int), lookF kf gs n0 n2 budget (f + 1) bits budget vs = some (7, bits, budget, vs) := fun bits f kf vs => by rw [lookF, if_pos rfl]
  induction hr with
  | @no bits h0 =>
    intro ht hl
    refine ⟨1, fun f hf kf hk looked vs l0 l1 hv => ?_⟩
    obtain ⟨f, rfl⟩ : ∃ g, f = g + 1 := ⟨f - 1, by omega⟩
    by_cases hb : looked = budget
    · subst hb
      exact ⟨_, over _ _ _ _, rfl, hv, by unfold lookRes; rw [if_neg (by omega)]⟩
    · refine ⟨_, (head bits f kf looked vs ht hl l0 l1 hv hb).trans (if_pos h0), rfl, by rw [valsG_length]; simp, ?_⟩
      unfold lookRes
      rw [if_pos (by omega)]
      exact ⟨rfl, rfl, rfl⟩
  | @yes bits h1' =>
    intro ht hl
    refine ⟨1, fun f hf kf hk looked vs l0 l1 hv => ?_⟩
    obtain ⟨f, rfl⟩ : ∃ g, f = g + 1 := ⟨f - 1, by omega⟩
    by_cases hb : looked = budget
    · subst hb
      exact ⟨_, over _ _ _ _, rfl, hv, by unfold lookRes; rw [if_neg (by omega)]⟩
    · refine ⟨_, (head bits f kf looked vs ht hl l0 l1 hv hb).trans ((if_neg (by omega)).trans (if_pos h1')), rfl, by rw [valsG_length]; simp, ?_⟩
      unfold lookRes
      rw [if_pos (by omega)]
      exact ⟨rfl, rfl, rfl⟩
  | @left bits m b c h2 hm hr ih =>
    intro ht hl
    obtain ⟨F, hF⟩ := ih (tri_set ht _ (by decide) (by decide)) (by rw [List.length_set]; exact hl)
    obtain ⟨m0, m1, m2⟩ := first_at h ht h2 hm
    refine ⟨F + 1, fun f hf kf hk looked vs l0 l1 hv => ?_⟩
    obtain ⟨f, rfl⟩ : ∃ g, f = g + 1 := ⟨f - 1, by omega⟩
    have hc := hr.pos
    by_cases hb : looked = budget
    · subst hb
      exact ⟨_, over _ _ _ _, rfl, hv, by unfold lookRes; rw [if_neg (by omega)]⟩
    · obtain ⟨m', e1, e2⟩ := relF_of h hs (vs := valsG bits gs []) (by rw [valsG_length]; simp) hk
      obtain rfl := first_unique h ht h2 e2 hm (Int.le_refl _) (Int.le_refl _)
      obtain ⟨x, hx, hxl, hxv, hres⟩ := hF f (by omega) kf hk (looked + 1) (valsG bits gs []) (by omega) (by omega) (by rw [valsG_length]; simp)
      rw [List.length_set] at hxl
      refine ⟨x, ?_, hxl, hxv, ?_⟩
      · rw [head bits f kf looked vs ht hl l0 l1 hv hb, if_neg (by omega), if_neg (by omega), e1, Option.bind_some, if_pos (by omega), hx, Option.bind_some, if_neg]
        unfold lookRes at hres
        split at hres
        · rw [hres.1]; decide
        · rw [hres]; decide
      · unfold lookRes at hres ⊢
        by_cases hq : looked + 1 + (c : Int) ≤ budget
        · rw [if_pos hq] at hres
          rw [if_pos (by omega)]
          exact ⟨hres.1, hres.2.1, by have := hres.2.2; omega⟩
        · rw [if_neg hq] at hres
          rw [if_neg (by omega)]
          exact hres
  | @right bits m r c c' h2 hm hr hr' ih ih' =>
    intro ht hl
    obtain ⟨F, hF⟩ := ih (tri_set ht _ (by decide) (by decide)) (by rw [List.length_set]; exact hl)
    obtain ⟨F', hF'⟩ := ih' (tri_set ht _ (by decide) (by decide)) (by rw [List.length_set]; exact hl)
    obtain ⟨m0, m1, m2⟩ := first_at h ht h2 hm
    have hi : m.toNat < bits.length := by omega
    have hbm : bits[m.toNat] = 2 := by rw [← rd_at bits m.toNat hi, Int.toNat_of_nonneg m0]; exact m2
    refine ⟨F + F' + 1, fun f hf kf hk looked vs l0 l1 hv => ?_⟩
    obtain ⟨f, rfl⟩ : ∃ g, f = g + 1 := ⟨f - 1, by omega⟩
    have hc := hr.pos
    have hc' := hr'.pos
    by_cases hb : looked = budget
    · subst hb
      exact ⟨_, over _ _ _ _, rfl, hv, by unfold lookRes; rw [if_neg (by omega)]⟩
    · obtain ⟨m', e1, e2⟩ := relF_of h hs (vs := valsG bits gs []) (by rw [valsG_length]; simp) hk
      obtain rfl := first_unique h ht h2 e2 hm (Int.le_refl _) (Int.le_refl _)
      obtain ⟨x, hx, hxl, hxv, hres⟩ := hF f (by omega) kf hk (looked + 1) (valsG bits gs []) (by omega) (by omega) (by rw [valsG_length]; simp)
      rw [List.length_set] at hxl
      have hd := head bits f kf looked vs ht hl l0 l1 hv hb
      rw [if_neg (by omega), if_neg (by omega), e1, Option.bind_some, if_pos (by omega), hx, Option.bind_some] at hd
      unfold lookRes at hres
      by_cases hq : looked + 1 + (c : Int) ≤ budget
      · rw [if_pos hq] at hres
        obtain ⟨q1, q2, q3⟩ := hres
        rw [if_pos q1, if_pos (by omega), q2, q3, List.set_set] at hd
        obtain ⟨y, hy, hyl, hyv, hres'⟩ := hF' f (by omega) kf hk (looked + 1 + c) x.2.2.2 (by omega) (by omega) hxv
        rw [List.length_set] at hyl
        rw [hy, Option.bind_some] at hd
        unfold lookRes at hres'
        by_cases hq' : looked + 1 + (c : Int) + (c' : Int) ≤ budget
        · rw [if_pos hq'] at hres'
          cases r with
          | some b =>
            obtain ⟨p1, p2, p3⟩ := hres'
            rw [if_neg (by rw [p1]; decide)] at hd
            refine ⟨y, hd, hyl, hyv, ?_⟩
            unfold lookRes
            rw [if_pos (by omega)]
            exact ⟨p1, p2, by omega⟩
          | none =>
            obtain ⟨p1, p2, p3⟩ := hres'
            rw [if_pos p1, if_pos (by omega), p2, set_back hi hbm] at hd
            refine ⟨_, hd, rfl, hyv, ?_⟩
            unfold lookRes
            rw [if_pos (by omega)]
            exact ⟨rfl, rfl, by show y.2.2.1 = _; omega⟩
        · rw [if_neg hq'] at hres'
          rw [if_neg (by rw [hres']; decide)] at hd
          refine ⟨y, hd, hyl, hyv, ?_⟩
          unfold lookRes
          rw [if_neg (by omega)]
          exact hres'
      · rw [if_neg hq] at hres
        rw [if_neg (by rw [hres]; decide)] at hd
        refine ⟨x, hd, hxl, hxv, ?_⟩
        unfold lookRes
        rw [if_neg (by omega)]
        exact hres
/-- What Least answers. -/
def leastR (budget : Int) (r : Option (List Int)) (c : Nat) : List Bool × Int × Int :=
  if (c : Int) ≤ budget then (match r with | some b => (b.map (fun b => b == 1), (c : Int), 0) | none => ([], 0, 4)) else ([], 0, 7)
theorem least_no (n0 : Int) (gs : List S52) (n2 : Int) (hs : Sm gs) (bits : List Int) (hl : bits.length ≤ 9223372036854775807) (budget : Int) (h : okP n0 gs n2 bits = false ∨ budget < 1 ∨ budget > 1048576) : Ev (fun k => sat_Least.f k n0 gs n2 bits budget) ([], 0, 1) := by
  unfold sat_Least.f
  refine Ev.bind (partial' n0 gs n2 hs bits hl) ?_
  cases e : okP n0 gs n2 bits with
  | false => simp only [Bool.false_eq_true, if_false]; exact Ev.now _
  | true =>
    simp only [if_true]
    rw [e] at h
    by_cases h1 : budget < 1
    · simp only [if_pos h1]; exact Ev.now _
    · simp only [if_neg h1, if_pos (by rcases h with h | h | h; cases h; exact absurd h h1; exact h : budget > 1048576)]; exact Ev.now _
theorem least_of {n0 : Int} {gs : List S52} {n2 : Int} (hs : Sm gs) {bits : List Int} (h : okP n0 gs n2 bits = true) {budget : Int} (h1 : 1 ≤ budget) (h2 : budget ≤ 1048576) {r : Option (List Int)} {c : Nat} (hr : Srch gs n0 n2 bits r c) : Ev (fun k => sat_Least.f k n0 gs n2 bits budget) (leastR budget r c) := by
  obtain ⟨ht, hc, hl⟩ := okP_iff.1 h
  obtain ⟨_, hn, _, _, _, _, _⟩ := okC_iff.1 hc
  unfold sat_Least.f
  refine Ev.bind (partial' n0 gs n2 hs bits (by omega)) ?_
  have hgl := hs.1
  rw [h]
  simp only [if_true, if_neg (by omega : ¬ budget < 1), if_neg (by omega : ¬ budget > 1048576), if_pos (by omega : gs.length ≤ 1000000), if_pos (by omega : bits.length ≤ 1000000)]
  obtain ⟨F, hF⟩ := look_of hc hs budget h2 hr ht hl
  refine ⟨F + 4000, fun k hk => ?_⟩
  obtain ⟨x, hx, hxl, hxv, hres⟩ := hF k (by omega) k (by omega) 0 (List.replicate gs.length 0) (by omega) (by omega) (by simp)
  dsimp only
  rw [hx, Option.bind_some]
  unfold lookRes at hres
  unfold leastR
  rw [Int.zero_add] at hres
  by_cases hq : (c : Int) ≤ budget
  · rw [if_pos hq] at hres ⊢
    cases r with
    | some b =>
      obtain ⟨p1, p2, p3⟩ := hres
      rw [if_pos p1, if_pos (by omega), p2, p3]
    | none =>
      obtain ⟨p1, p2, p3⟩ := hres
      rw [if_neg (by rw [p1]; decide), p1]
  · rw [if_neg hq] at hres ⊢
    rw [if_neg (by rw [hres]; decide), hres]
/-- Whether two lists are equal. -/
theorem rsame (a b : List Bool) (ha : a.length ≤ 1000000) : Ev (fun k => pentaglotlaw28_same.f k a b) (a == b) := by
  have loop : ∀ (t : List Bool) (i : Nat), a.drop i = t → i ≤ a.length → a.length = b.length → Ev (fun k => pentaglotref28_Same.l0 k a b (a.length : Int) (i : Int)) (t == b.drop i) := by
    intro t
    induction t with
    | nil =>
      intro i h hi hl
      have := rest_nil hi h
      rw [List.drop_of_length_le (by omega)]
      refine Ev.step (f := fun _ => some true) (fun k => ?_) (Ev.now _)
      simp only [pentaglotref28_Same.l0]
      rw [if_neg (by omega)]
    | cons x t ih =>
      intro i h hi hl
      obtain ⟨h1, h2, h3⟩ := restB h
      have hb : b.drop i = b[i] :: b.drop (i + 1) := List.drop_eq_getElem_cons (by omega)
      obtain ⟨h4, h5, h6⟩ := restB hb
      rw [hb]
      by_cases e : x = b[i]
      · rw [show (x :: t == b[i] :: b.drop (i + 1)) = (t == b.drop (i + 1)) by rw [List.cons_beq_cons, e]; simp]
        refine Ev.step (fun k => ?_) (ih (i + 1) h3 (by omega) hl)
        simp only [pentaglotref28_Same.l0, h2, h5]
        rw [if_pos (by omega), if_pos (by omega), if_pos (by omega), if_pos (by omega), e, bne_self_eq_false, if_neg (by decide), w64 (by omega) (by omega)]
        rfl
      · rw [show (x :: t == b[i] :: b.drop (i + 1)) = false by rw [List.cons_beq_cons]; simp [e]]
        refine Ev.step (f := fun _ => some false) (fun k => ?_) (Ev.now _)
        simp only [pentaglotref28_Same.l0, h2, h5]
        rw [if_pos (by omega), if_pos (by omega), if_pos (by omega), if_pos (by omega), if_pos (by simpa using e)]
  unfold pentaglotlaw28_same.f
  refine Ev.bind (a := (a == b)) ?_ (Ev.now _)
  unfold pentaglotref28_Same.f
  by_cases hl : a.length = b.length
  · have h := loop a 0 rfl (Nat.zero_le _) hl
    rw [List.drop_zero] at h
    refine Ev.congr (fun k => ?_) h
    rw [if_pos (by omega)]
    rfl
  · rw [show (a == b) = false by rw [beq_eq_false_iff_ne]; intro e; exact hl (by rw [e])]
    refine ⟨0, fun k _ => ?_⟩
    dsimp only
    rw [if_neg (by omega)]
end Go.Proofs.Ytflknolnclnhfaa.Sv
