/- Plain facts on the printed functions of the circuits: the reference's two-valued values; refining a partial assignment keeps what is known. -/
import Derived.Test.YtflknolnclnhfaaPx0
import Derived.Test.YtflknolnclnhfaaPx8
import Derived.Test.YtflknolnclnhfaaSvB
namespace Go.Proofs.Ytflknolnclnhfaa.Sv
set_option linter.unusedVariables false
set_option linter.unusedSimpArgs false
open Go.RowKit Go.Proofs.Ytflknolnclnhfaa.P Go.Proofs.YtflknolnclnhfaaW.PrintWords Go.Proofs.YtflknolnclnhfaaW.PrintLast

def foldB (op : Int) : Bool → List Bool → Bool
  | c, [] => c
  | c, x :: t => foldB op (if op = 4 then !x else if op = 5 then (if c = true then x else false) else if op = 6 then (if c = true then true else x) else c) t
theorem fold5 : ∀ (l : List Bool) (c : Bool), foldB 5 c l = (c && l.all id)
  | [], c => by simp [foldB]
  | x :: t, c => by rw [foldB, fold5 t]; cases c <;> simp
theorem fold6 : ∀ (l : List Bool) (c : Bool), foldB 6 c l = (c || l.any id)
  | [], c => by simp [foldB]
  | x :: t, c => by rw [foldB, fold6 t]; cases c <;> simp
def startB (bits : List Bool) (g : S52) : Bool := if g.f0 = 2 then true else if g.f0 = 5 then true else if g.f0 = 3 then rdOf false bits g.f1 else false
theorem bstep_fold {n0 : Int} {g : S52} (bits vs : List Bool) (h : opG n0 g = true) : foldB g.f0 (startB bits g) (g.f2.map (rdOf false vs)) = bstep bits vs g := by
  unfold opG at h
  unfold startB bstep
  by_cases o1 : g.f0 = 1
  · rw [if_pos (.inl o1)] at h
    simp only [Bool.and_eq_true, beq_iff_eq] at h
    rw [List.eq_nil_of_length_eq_zero (by omega : g.f2.length = 0), if_neg (by omega), if_neg (by omega), if_neg (by omega), if_pos o1]
    rfl
  by_cases o2 : g.f0 = 2
  · rw [if_pos (.inr o2)] at h
    simp only [Bool.and_eq_true, beq_iff_eq] at h
    rw [List.eq_nil_of_length_eq_zero (by omega : g.f2.length = 0), if_pos o2, if_neg o1, if_pos o2]
    rfl
  rw [if_neg (by omega)] at h
  by_cases o3 : g.f0 = 3
  · rw [if_pos o3] at h
    simp only [Bool.and_eq_true, beq_iff_eq] at h
    rw [List.eq_nil_of_length_eq_zero (by omega : g.f2.length = 0), if_neg o2, if_neg (by omega), if_pos o3, if_neg o1, if_neg o2, if_pos o3]
    rfl
  rw [if_neg o3] at h
  by_cases o4 : g.f0 = 4
  · rw [if_pos o4] at h
    simp only [Bool.and_eq_true, beq_iff_eq] at h
    obtain ⟨x, hx⟩ := List.length_eq_one_iff.1 (by omega : g.f2.length = 1)
    rw [if_neg o1, if_neg o2, if_neg o3, if_pos o4, hx, o4]
    rfl
  rw [if_neg o4] at h
  by_cases o5 : g.f0 = 5
  · rw [if_neg o2, if_pos o5, if_neg o1, if_neg o2, if_neg o3, if_neg o4, if_neg (by omega : ¬ g.f0 = 6), o5, fold5]
    simp
  by_cases o6 : g.f0 = 6
  · rw [if_neg o2, if_neg o5, if_neg o3, if_neg o1, if_neg o2, if_neg o3, if_neg o4, if_pos o6, o6, fold6]
    simp
  rw [if_neg (by omega)] at h
  cases h
theorem rdOf_left {a b : List Bool} {i : Int} (h0 : 0 ≤ i) (h : i < a.length) : rdOf false (a ++ b) i = rdOf false a i := by
  unfold rdOf
  rw [List.getD_eq_getElem?_getD, List.getD_eq_getElem?_getD, List.getElem?_append_left (by omega)]
theorem set_midB (pre suf : List Bool) (c v : Bool) (i : Nat) (h : pre.length = i) : (pre ++ c :: suf).set i v = pre ++ v :: suf := by
  subst h
  rw [List.set_append, if_neg (by omega)]
  simp
theorem bvals_kids (n0 : Int) (gs : List S52) (n2 : Int) (bits pre suf : List Bool) (g : S52) (i : Nat) (hp : pre.length = i) (hg : g.f2.length ≤ 50) (hk : g.f2.all (inB i) = true) (r : List Bool)
    (hr : Ev (fun k => pentaglotref27_Values.l1 k bits (pre ++ suf) (i : Int) (foldB g.f0 (startB bits g) (g.f2.map (rdOf false pre))) (g.f2.length : Int) n0 gs n2 g.f0 g.f1 g.f2) r) : ∀ (t : List Int) (j : Nat) (c : Bool), g.f2.drop j = t → j ≤ g.f2.length → foldB g.f0 c (t.map (rdOf false pre)) = foldB g.f0 (startB bits g) (g.f2.map (rdOf false pre)) →
    Ev (fun k => pentaglotref27_Values.l1 k bits (pre ++ suf) (i : Int) c (j : Int) n0 gs n2 g.f0 g.f1 g.f2) r := by
  intro t
  induction t with
  | nil =>
    intro j c h hj hc
    have := rest_nil hj h
    subst this
    rw [← hc] at hr
    exact hr
  | cons x t ih =>
    intro j c h hj hc
    obtain ⟨h1, h2, h3⟩ := rest h
    have hx : g.f2[j] = x := by
      rw [List.drop_eq_getElem_cons h1] at h
      injection h
    have hxk : inB i x = true := by rw [← hx]; exact List.all_eq_true.1 hk _ (List.getElem_mem _)
    obtain ⟨x0, x1⟩ := inB_iff.1 hxk
    have ih := fun c' hc' => ih (j + 1) c' h3 (by omega) hc'
    rw [List.map_cons, foldB] at hc
    have ih := ih _ hc
    refine Ev.step (fun k => ?_) ih
    simp only [pentaglotref27_Values.l1, h2]
    rw [if_pos (by omega), if_pos (by omega), if_pos x0, if_pos (by simp; omega), w64 (by omega) (by omega), rdOf_left x0 (by omega)]
    by_cases o4 : g.f0 = 4
    · rw [if_pos o4, if_pos o4]; rfl
    rw [if_neg o4, if_neg o4]
    by_cases o5 : g.f0 = 5
    · rw [if_pos o5, if_pos o5]
      cases c <;> rfl
    rw [if_neg o5, if_neg o5]
    by_cases o6 : g.f0 = 6
    · rw [if_pos o6, if_pos o6]
      cases c <;> rfl
    rw [if_neg o6, if_neg o6]
    rfl
theorem bvals_loop (n0 : Int) (gs : List S52) (n2 : Int) (hs : Sm gs) (bits : List Bool) (hb : (bits.length : Int) = n0) : ∀ (t : List S52) (i : Nat) (pre suf : List Bool), gs.drop i = t → i ≤ gs.length → pre.length = i → suf.length = t.length → okL n0 i t = true →
    Ev (fun k => pentaglotref27_Values.l0 k bits (pre ++ suf) (i : Int) n0 gs n2) (bvalsG bits t pre) := by
  intro t
  induction t with
  | nil =>
    intro i pre suf h hi hp hsu ho
    have := rest_nil hi h
    obtain rfl := List.eq_nil_of_length_eq_zero hsu
    rw [List.append_nil]
    refine Ev.step (f := fun _ => some pre) (fun k => ?_) (Ev.now _)
    simp only [pentaglotref27_Values.l0]
    rw [if_neg (by omega)]
  | cons g t ih =>
    intro i pre suf h hi hp hsu ho
    obtain ⟨h1, h2, h3⟩ := rest52 h
    rw [okL, Bool.and_eq_true] at ho
    obtain ⟨hg, hot⟩ := ho
    unfold okG at hg
    rw [Bool.and_eq_true] at hg
    obtain ⟨hk, hop⟩ := hg
    have hmem : g ∈ gs := by rw [← List.take_append_drop i gs, h]; simp
    have hkl := hs.2 g hmem
    have hgl := hs.1
    cases suf with
    | nil => cases hsu
    | cons c suf =>
      have ih := ih (i + 1) (pre ++ [bstep bits pre g]) suf h3 (by omega) (by simp; omega) (by simpa using hsu) hot
      rw [List.append_assoc, List.singleton_append] at ih
      rw [bvalsG]
      have main : Ev (fun k => pentaglotref27_Values.j1 k bits (pre ++ c :: suf) (i : Int) (startB bits g) n0 gs n2 g.f0 g.f1 g.f2) (bvalsG bits t (pre ++ [bstep bits pre g])) := by
        refine Ev.step (fun k => by simp only [pentaglotref27_Values.j1]; rfl) (bvals_kids n0 gs n2 bits pre (c :: suf) g i hp hkl hk _ ?_ g.f2 0 (startB bits g) rfl (Nat.zero_le _) rfl)
        rw [bstep_fold bits pre hop]
        refine Ev.step (fun k => ?_) ih
        simp only [pentaglotref27_Values.l1]
        rw [if_neg (by omega), if_pos (by omega), if_pos (by simp; omega), w64 (by omega) (by omega), Int.toNat_natCast, set_midB _ _ _ _ _ hp]
        rfl
      refine Ev.step (fun k => ?_) main
      simp only [pentaglotref27_Values.l0, h2]
      rw [if_pos (by omega), if_pos (by omega)]
      unfold startB
      by_cases o2 : g.f0 = 2
      · rw [if_pos o2, if_pos o2]
      rw [if_neg o2, if_neg o2]
      by_cases o5 : g.f0 = 5
      · rw [if_pos o5, if_pos o5]
      rw [if_neg o5, if_neg o5]
      by_cases o3 : g.f0 = 3
      · unfold opG at hop
        rw [if_neg (by omega), if_pos o3] at hop
        simp only [Bool.and_eq_true, decide_eq_true_eq] at hop
        rw [if_pos o3, if_pos o3, if_pos (by omega), if_pos (by omega)]
      rw [if_neg o3, if_neg o3]
theorem reval {n0 : Int} {gs : List S52} {n2 : Int} (hs : Sm gs) (h : okC n0 gs n2 = true) {bits : List Bool} (hb : (bits.length : Int) = n0) : Ev (fun k => pentaglotref27_Eval.f k n0 gs n2 bits) (rdOf false (bvalsG bits gs []) n2) := by
  obtain ⟨_, _, _, _, h5, h6, h7⟩ := okC_iff.1 h
  have hgl := hs.1
  unfold pentaglotref27_Eval.f
  refine Ev.bind (a := bvalsG bits gs []) ?_ ?_
  · have hl := bvals_loop n0 gs n2 hs bits hb gs 0 [] (List.replicate gs.length false) rfl (Nat.zero_le _) rfl (by simp) h7
    refine Ev.congr (fun k => ?_) hl
    simp only [pentaglotref27_Values.f]
    rw [if_pos (by omega), if_pos (by omega), Int.toNat_natCast, List.nil_append]
    rfl
  · rw [if_pos h5, if_pos (by rw [bvalsG_length]; simp; omega)]
    exact Ev.now _
/-! refining -/
/-- b is a, some unknown entries told. -/
def Ref (a b : List Int) : Prop := a.length = b.length ∧ ∀ i : Int, rd a i ≠ 2 → rd b i = rd a i
theorem Ref.refl (a : List Int) : Ref a a := ⟨rfl, fun _ _ => rfl⟩
theorem Ref.trans {a b c : List Int} (h : Ref a b) (k : Ref b c) : Ref a c := ⟨h.1.trans k.1, fun i hi => by
  have := h.2 i hi
  rw [k.2 i (by rw [this]; exact hi), this]⟩
theorem rd_out {l : List Int} {i : Int} (h : (l.length : Int) ≤ i) : rd l i = 0 := by
  unfold rd
  rw [List.getD_eq_getElem?_getD, List.getElem?_eq_none (by omega)]
  rfl
theorem rd_snoc (l : List Int) (v : Int) : rd (l ++ [v]) (l.length : Int) = v := by
  rw [rd_at _ _ (by simp)]
  simp
theorem rd_neg {l : List Int} {i : Int} (h : i < 0) : rd l i = rd l 0 := by
  unfold rd
  rw [show i.toNat = 0 by omega]
  rfl
theorem joinF_stay {s : Int} (h2 : s ≠ 2) (hs1 : 1 - s ≠ 2) : ∀ (l l' : List Int) (c c' : Int), (c ≠ 2 → c' = c) → l.length = l'.length → (∀ j, j < l.length → l.getD j 0 ≠ 2 → l'.getD j 0 = l.getD j 0) → (c = 1 - s ∨ c = 2) → (c' = 1 - s ∨ c' = 2) → joinF s c l ≠ 2 → joinF s c' l' = joinF s c l
  | [], [], c, c', hc, _, _, _, _, h => hc h
  | [], _ :: _, _, _, _, h, _, _, _, _ => by cases h
  | _ :: _, [], _, _, _, h, _, _, _, _ => by cases h
  | v :: l, v' :: l', c, c', hc, hl, hv, hk, hk', h => by
    simp only [joinF] at h ⊢
    have hv0 := hv 0 (by simp)
    simp only [List.getD_cons_zero] at hv0
    by_cases e : v = s
    · rw [if_pos e] at h ⊢
      rw [if_pos (by rw [hv0 (by rw [e]; exact h2), e])]
    · rw [if_neg e] at h ⊢
      by_cases e2 : v = 2
      · rw [if_pos e2] at h ⊢
        -- an unknown kid: the join is s, or stays unknown
        have hs : ∀ (l : List Int), joinF s 2 l = s ∨ joinF s 2 l = 2 := by
          intro l
          induction l with
          | nil => exact .inr rfl
          | cons x t ih =>
            rw [joinF]
            split
            · exact .inl rfl
            · rw [show (if x = 2 then (2 : Int) else 2) = 2 by split <;> rfl]
              exact ih
        have hj : joinF s 2 l = s := by
          rcases hs l with h' | h'
          · exact h'
          · exact absurd h' h
        -- some later kid is s
        have mem : ∀ (l : List Int) (c : Int), c ≠ s → joinF s c l = s → ∃ j, j < l.length ∧ l.getD j 0 = s := by
          intro l
          induction l with
          | nil => intro c hc h; exact absurd h hc
          | cons x t ih =>
            intro c hc h
            rw [joinF] at h
            by_cases ex : x = s
            · exact ⟨0, by simp, by simpa using ex⟩
            · rw [if_neg ex] at h
              obtain ⟨j, h1, h3⟩ := ih _ (by split <;> omega) h
              exact ⟨j + 1, by simp; omega, by simpa using h3⟩
        have mem' : ∀ (l : List Int) (c : Int), (∃ j, j < l.length ∧ l.getD j 0 = s) → joinF s c l = s := by
          intro l
          induction l with
          | nil => rintro c ⟨j, h1, _⟩; simp at h1
          | cons x t ih =>
            rintro c ⟨j, h1, h3⟩
            rw [joinF]
            by_cases ex : x = s
            · rw [if_pos ex]
            · rw [if_neg ex]
              cases j with
              | zero => exact absurd (by simpa using h3) ex
              | succ j => exact ih _ ⟨j, by simpa using h1, by simpa using h3⟩
        obtain ⟨j, h1, h3⟩ := mem l 2 (Ne.symm h2) hj
        rw [hj]
        refine (by simp only [joinF] : (if v' = s then s else joinF s (if v' = 2 then 2 else c') l') = joinF s c' (v' :: l')).trans ?_
        refine mem' (v' :: l') c' ⟨j + 1, by simp at hl ⊢; omega, ?_⟩
        have := hv (j + 1) (by simp; omega)
        simp only [List.getD_cons_succ] at this ⊢
        rw [this (by rw [h3]; exact h2), h3]
      · rw [if_neg e2] at h ⊢
        have ev : v' = v := hv0 e2
        rw [if_neg (by rw [ev]; exact e), if_neg (by rw [ev]; exact e2)]
        exact joinF_stay h2 hs1 l l' c c' hc (by simpa using hl) (fun j hj => by
          have := hv (j + 1) (by simp; omega)
          simpa using this) hk hk' h
theorem vstep_stay {bits bits' vs vs' : List Int} (hb : Ref bits bits') (hv : Ref vs vs') (g : S52) (h : vstep bits vs g ≠ 2) : vstep bits' vs' g = vstep bits vs g := by
  unfold vstep at h ⊢
  by_cases o1 : g.f0 = 1
  · rw [if_pos o1, if_pos o1]
  rw [if_neg o1] at h ⊢
  rw [if_neg o1]
  by_cases o2 : g.f0 = 2
  · rw [if_pos o2, if_pos o2]
  rw [if_neg o2] at h ⊢
  rw [if_neg o2]
  by_cases o3 : g.f0 = 3
  · rw [if_pos o3] at h ⊢
    rw [if_pos o3]
    exact hb.2 _ h
  rw [if_neg o3] at h ⊢
  rw [if_neg o3]
  by_cases o4 : g.f0 = 4
  · rw [if_pos o4] at h ⊢
    rw [if_pos o4]
    unfold negF at h ⊢
    by_cases e : rd vs (rd g.f2 0) = 2
    · rw [if_pos e] at h; exact absurd rfl h
    · rw [hv.2 _ e]
  rw [if_neg o4] at h ⊢
  rw [if_neg o4]
  have hs := strong01 g.f0
  refine joinF_stay (by omega) (by omega) _ _ _ _ (fun _ => rfl) (by simp) (fun j hj hne => ?_) (.inl rfl) (.inl rfl) h
  rw [List.length_map] at hj
  simp only [List.getD_eq_getElem?_getD, List.getElem?_map, List.getElem?_eq_getElem hj, Option.map_some, Option.getD_some] at hne ⊢
  exact hv.2 _ hne
theorem Ref.snoc {vs vs' : List Int} {v v' : Int} (h : Ref vs vs') (hv : v ≠ 2 → v' = v) : Ref (vs ++ [v]) (vs' ++ [v']) := by
  refine ⟨by simp [h.1], fun i hi => ?_⟩
  have hl := h.1
  by_cases h0 : i < 0
  · rw [rd_neg h0] at hi ⊢
    rw [rd_neg h0]
    by_cases e : vs.length = 0
    · obtain rfl := List.eq_nil_of_length_eq_zero e
      obtain rfl := List.eq_nil_of_length_eq_zero (by omega : vs'.length = 0)
      exact hv hi
    · rw [rd_left (Int.le_refl 0) (by omega)] at hi ⊢
      rw [rd_left (Int.le_refl 0) (by omega)]
      exact h.2 _ hi
  · by_cases h1 : i < vs.length
    · rw [rd_left (by omega) h1] at hi ⊢
      rw [rd_left (by omega) (by omega)]
      exact h.2 _ hi
    · by_cases h2 : i = vs.length
      · subst h2
        rw [rd_snoc] at hi ⊢
        rw [hl, rd_snoc]
        exact hv hi
      · rw [rd_out (by simp; omega), rd_out (by simp; omega)]
theorem valsG_stay {bits bits' : List Int} (hb : Ref bits bits') : ∀ (gs : List S52) (vs vs' : List Int), Ref vs vs' → Ref (valsG bits gs vs) (valsG bits' gs vs')
  | [], _, _, h => h
  | g :: gs, vs, vs', h => valsG_stay hb gs _ _ (h.snoc (vstep_stay hb h g))
theorem out3_stay {bits bits' : List Int} (hb : Ref bits bits') (gs : List S52) (n2 : Int) (h : out3 gs n2 bits ≠ 2) : out3 gs n2 bits' = out3 gs n2 bits := (valsG_stay hb gs [] [] (Ref.refl _)).2 _ h
end Go.Proofs.Ytflknolnclnhfaa.Sv
