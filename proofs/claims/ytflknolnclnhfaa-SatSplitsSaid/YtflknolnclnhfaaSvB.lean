/- Plain facts on the printed functions of the circuits: the values of gates, three-valued and two-valued, the program's and the reference's. -/
import Derived.Test.YtflknolnclnhfaaPx0
import Derived.Test.YtflknolnclnhfaaPx2
import Derived.Test.YtflknolnclnhfaaPx9
import Derived.Test.YtflknolnclnhfaaSvA
namespace Go.Proofs.Ytflknolnclnhfaa.Sv
set_option linter.unusedVariables false
set_option linter.unusedSimpArgs false
open Go.RowKit Go.Proofs.Ytflknolnclnhfaa.P Go.Proofs.YtflknolnclnhfaaW.PrintWords Go.Proofs.YtflknolnclnhfaaW.PrintLast

/-- A join: s is strong, c what has come so far. -/
def joinF (s : Int) : Int → List Int → Int
  | c, [] => c
  | c, v :: t => if v = s then s else joinF s (if v = 2 then 2 else c) t
def negF (v : Int) : Int := if v = 2 then 2 else 1 - v
/-- A gate's value, the earlier gates' being vs. -/
def vstep (bits vs : List Int) (g : S52) : Int :=
  if g.f0 = 1 then 0 else if g.f0 = 2 then 1 else if g.f0 = 3 then rd bits g.f1 else if g.f0 = 4 then negF (rd vs (rd g.f2 0)) else joinF (strongG g.f0) (1 - strongG g.f0) (g.f2.map (rd vs))
def valsG (bits : List Int) : List S52 → List Int → List Int
  | [], vs => vs
  | g :: gs, vs => valsG bits gs (vs ++ [vstep bits vs g])
theorem valsG_length (bits : List Int) : ∀ (gs : List S52) (vs : List Int), (valsG bits gs vs).length = vs.length + gs.length
  | [], vs => rfl
  | g :: gs, vs => by rw [valsG, valsG_length bits gs]; simp; omega
theorem rd_left {a b : List Int} {i : Int} (h0 : 0 ≤ i) (h : i < a.length) : rd (a ++ b) i = rd a i := by
  unfold rd
  rw [List.getD_eq_getElem?_getD, List.getD_eq_getElem?_getD, List.getElem?_append_left (by omega)]
theorem rd_at (l : List Int) (i : Nat) (h : i < l.length) : rd l (i : Int) = l[i] := by
  unfold rd
  rw [Int.toNat_natCast, List.getD_eq_getElem?_getD, List.getElem?_eq_getElem h]
  rfl
theorem valsG_pre (bits : List Int) : ∀ (gs : List S52) (vs : List Int), ∃ t, valsG bits gs vs = vs ++ t
  | [], vs => ⟨[], by simp [valsG]⟩
  | g :: gs, vs => by
    obtain ⟨t, h⟩ := valsG_pre bits gs (vs ++ [vstep bits vs g])
    exact ⟨vstep bits vs g :: t, by rw [valsG, h]; simp⟩
theorem inB_iff {i k : Int} : inB i k = true ↔ 0 ≤ k ∧ k < i := by unfold inB; simp
theorem notG_eq {v : Int} (h0 : 0 ≤ v) (h : v ≤ 2) : notG v = negF v := by unfold notG negF; split; rfl; exact w64 (by omega) (by omega)
theorem set_mid (pre suf : List Int) (c v : Int) (i : Nat) (h : pre.length = i) : (pre ++ c :: suf).set i v = pre ++ v :: suf := by
  subst h
  rw [List.set_append, if_neg (by omega)]
  simp
theorem kids_val (s : Int) (i : Nat) (pre suf : List Int) (hp : pre.length = i) : ∀ (ks : List Int) (c : Int), ks.all (inB i) = true → kidsG s i ks (pre ++ c :: suf) = some (pre ++ joinF s c (ks.map (rd pre)) :: suf)
  | [], c, _ => rfl
  | k :: ks, c, h => by
    rw [List.all_cons, Bool.and_eq_true] at h
    obtain ⟨hk, hks⟩ := h
    obtain ⟨k0, k1⟩ := inB_iff.1 hk
    have e : (pre ++ c :: suf).getD k.toNat 0 = rd pre k := rd_left (b := c :: suf) k0 (by omega)
    rw [kidsG, if_pos ⟨k0, by simp; omega⟩, e, List.map_cons, joinF]
    by_cases h1 : rd pre k = s
    · rw [if_pos h1, if_pos h1, set_mid _ _ _ _ _ hp]
    · rw [if_neg h1, if_neg h1]
      by_cases h2 : rd pre k = 2
      · rw [if_pos h2, if_pos h2, set_mid _ _ _ _ _ hp]
        exact kids_val s i pre suf hp ks 2 hks
      · rw [if_neg h2, if_neg h2]
        exact kids_val s i pre suf hp ks c hks
/-- All entries are 0, 1 or 2. -/
def Tri (l : List Int) : Prop := ∀ v ∈ l, 0 ≤ v ∧ v ≤ 2
theorem Tri.rd_ {l : List Int} (h : Tri l) (i : Int) : 0 ≤ rd l i ∧ rd l i ≤ 2 := by
  unfold rd
  rw [List.getD_eq_getElem?_getD]
  cases h2 : l[i.toNat]? with
  | none => simp
  | some v => exact h v (List.mem_of_getElem? h2)
theorem joinF_tri {s : Int} (hs : s = 0 ∨ s = 1) : ∀ (l : List Int) (c : Int), 0 ≤ c ∧ c ≤ 2 → 0 ≤ joinF s c l ∧ joinF s c l ≤ 2
  | [], c, h => h
  | v :: t, c, h => by
    rw [joinF]
    split
    · omega
    · exact joinF_tri hs t _ (by split <;> omega)
theorem strong01 (op : Int) : strongG op = 0 ∨ strongG op = 1 := by unfold strongG; split <;> simp
theorem vstep_tri {bits vs : List Int} (hb : Tri bits) (hv : Tri vs) (g : S52) : 0 ≤ vstep bits vs g ∧ vstep bits vs g ≤ 2 := by
  unfold vstep
  split
  · omega
  split
  · omega
  split
  · exact hb.rd_ _
  split
  · have := hv.rd_ (rd g.f2 0)
    unfold negF
    split <;> omega
  · exact joinF_tri (strong01 _) _ _ (by have := strong01 g.f0; omega)
theorem valsG_tri {bits : List Int} (hb : Tri bits) : ∀ (gs : List S52) {vs : List Int}, Tri vs → Tri (valsG bits gs vs)
  | [], vs, h => h
  | g :: gs, vs, h => valsG_tri hb gs (fun v hv => by
      rcases List.mem_append.1 hv with hv | hv
      · exact h v hv
      · obtain rfl := List.mem_singleton.1 hv
        exact vstep_tri hb h g)
theorem step_val (n0 : Int) (bits : List Int) (g : S52) (i : Nat) (pre suf : List Int) (c : Int) (hp : pre.length = i) (ht : Tri pre) (hb : (bits.length : Int) = n0) (hg : okG n0 i g = true) :
    P.stepG g i bits (pre ++ c :: suf) = some (pre ++ vstep bits pre g :: suf) := by
  unfold okG at hg
  rw [Bool.and_eq_true] at hg
  obtain ⟨hk, ho⟩ := hg
  unfold P.stepG vstep
  rw [if_pos (by simp; omega)]
  by_cases h1 : g.f0 = 1
  · rw [if_pos h1, if_pos h1, set_mid _ _ _ _ _ hp]
  rw [if_neg h1, if_neg h1]
  by_cases h2 : g.f0 = 2
  · rw [if_pos h2, if_pos h2, set_mid _ _ _ _ _ hp]
  rw [if_neg h2, if_neg h2]
  by_cases h3 : g.f0 = 3
  · rw [if_pos h3, if_pos h3]
    unfold opG at ho
    rw [if_neg (by omega), if_pos h3] at ho
    simp only [Bool.and_eq_true, decide_eq_true_eq] at ho
    rw [if_pos (by omega), set_mid _ _ _ _ _ hp]
  rw [if_neg h3, if_neg h3]
  by_cases h4 : g.f0 = 4
  · rw [if_pos h4, if_pos h4]
    unfold opG at ho
    rw [if_neg (by omega), if_neg h3, if_pos h4] at ho
    simp only [Bool.and_eq_true, beq_iff_eq] at ho
    have hl : g.f2.length = 1 := by omega
    have hk0 : inB i (rd g.f2 0) = true := by
      rw [show (0 : Int) = ((0 : Nat) : Int) from rfl, rd_at g.f2 0 (by omega)]
      exact List.all_eq_true.1 hk _ (List.getElem_mem _)
    obtain ⟨k0, k1⟩ := inB_iff.1 hk0
    rw [if_pos ⟨by omega, k0, by simp; omega⟩, set_mid _ _ _ _ _ hp, rd_left k0 (by omega), notG_eq (ht.rd_ _).1 (ht.rd_ _).2]
  rw [if_neg h4, if_neg h4, set_mid _ _ _ _ _ hp]
  exact kids_val _ i pre suf hp g.f2 _ hk
theorem out_val (n0 : Int) (bits : List Int) (hb : (bits.length : Int) = n0) (htb : Tri bits) : ∀ (gs : List S52) (i : Nat) (pre suf : List Int), pre.length = i → suf.length = gs.length → Tri pre → okL n0 i gs = true →
    outG bits gs i (pre ++ suf) = some (valsG bits gs pre)
  | [], i, pre, suf, _, hs, _, _ => by
    obtain rfl := List.eq_nil_of_length_eq_zero hs
    rw [List.append_nil]
    rfl
  | g :: gs, i, pre, suf, hp, hs, ht, ho => by
    rw [okL, Bool.and_eq_true] at ho
    cases suf with
    | nil => cases hs
    | cons c suf =>
      rw [outG, step_val n0 bits g i pre suf c hp ht hb ho.1, Option.bind_some, valsG]
      have h := out_val n0 bits hb htb gs (i + 1) (pre ++ [vstep bits pre g]) suf (by simp; omega) (by simpa using hs) (fun v hv => by
        rcases List.mem_append.1 hv with hv | hv
        · exact ht v hv
        · obtain rfl := List.mem_singleton.1 hv
          exact vstep_tri htb ht g) ho.2
      rw [List.append_assoc, List.singleton_append] at h
      exact h
/-- What a valid circuit is. -/
theorem okC_iff {n0 : Int} {gs : List S52} {n2 : Int} : okC n0 gs n2 = true ↔ 0 ≤ n0 ∧ n0 ≤ 1024 ∧ 1 ≤ gs.length ∧ gs.length ≤ 20000 ∧ 0 ≤ n2 ∧ n2 < (gs.length : Int) ∧ okL n0 0 gs = true := by
  unfold okC
  simp only [Bool.and_eq_true, decide_eq_true_eq]
  constructor
  · rintro ⟨⟨⟨⟨⟨⟨a, b⟩, c⟩, d⟩, e⟩, f⟩, g⟩
    exact ⟨a, b, by omega, by omega, e, f, g⟩
  · rintro ⟨a, b, c, d, e, f, g⟩
    exact ⟨⟨⟨⟨⟨⟨a, b⟩, by omega⟩, by omega⟩, e⟩, f⟩, g⟩
theorem okP_iff {n0 : Int} {gs : List S52} {n2 : Int} {bits : List Int} : okP n0 gs n2 bits = true ↔ Tri bits ∧ okC n0 gs n2 = true ∧ (bits.length : Int) = n0 := by
  unfold okP Tri
  rw [Bool.and_eq_true, Bool.and_eq_true, beq_iff_eq, List.all_eq_true]
  constructor
  · rintro ⟨h1, h2, h3⟩
    exact ⟨fun v hv => by have := h1 v hv; unfold in3 at this; simpa using this, h2, h3⟩
  · rintro ⟨h1, h2, h3⟩
    exact ⟨fun v hv => by unfold in3; simpa using h1 v hv, h2, h3⟩
theorem outF_val {n0 : Int} {gs : List S52} {n2 : Int} {bits : List Int} (h : okC n0 gs n2 = true) (hb : (bits.length : Int) = n0) (ht : Tri bits) (vs : List Int) (hv : vs.length = gs.length) :
    outF gs n2 bits vs = some (valsG bits gs [], rd (valsG bits gs []) n2) := by
  obtain ⟨_, _, _, _, h5, h6, h7⟩ := okC_iff.1 h
  have e := out_val n0 bits hb ht gs 0 [] vs rfl hv (fun v hv => by cases hv) h7
  rw [List.nil_append] at e
  unfold outF
  rw [e, Option.bind_some, if_pos (by rw [valsG_length]; simp; omega)]
/-- The three-valued output. -/
def out3 (gs : List S52) (n2 : Int) (bits : List Int) : Int := rd (valsG bits gs []) n2
theorem three (n0 : Int) (gs : List S52) (n2 : Int) (hs : Sm gs) (bits : List Int) (hl : bits.length ≤ 9223372036854775807) :
    Ev (fun k => sat_Three.f k n0 gs n2 bits) (if okP n0 gs n2 bits = true then (out3 gs n2 bits, 0) else (0, 1)) := by
  unfold sat_Three.f
  refine Ev.bind (partial' n0 gs n2 hs bits hl) ?_
  cases h : okP n0 gs n2 bits with
  | false => simp only [Bool.false_eq_true, if_false]; exact Ev.now _
  | true =>
    obtain ⟨h1, h2, h3⟩ := okP_iff.1 h
    have := hs.1
    simp only [if_true]
    rw [if_pos (by omega)]
    refine ⟨0, fun k _ => ?_⟩
    show (outF gs n2 bits (List.replicate gs.length 0)).bind _ = _
    rw [outF_val h2 h3 h1 _ (by simp)]
    rfl
def b2i (b : Bool) : Int := if b = true then 1 else 0
theorem b2i_tri (l : List Bool) : Tri (l.map b2i) := fun v hv => by
  obtain ⟨b, _, rfl⟩ := List.mem_map.1 hv
  cases b <;> simp [b2i]
theorem eval_loop (n0 : Int) (gs : List S52) (n2 : Int) (bits : List Bool) (hl : bits.length ≤ 1000000) (r : Int × Int) (hr : Ev (fun k => sat_Three.f k n0 gs n2 (bits.map b2i)) r) : ∀ (t : List Bool) (i : Nat), bits.drop i = t → i ≤ bits.length →
    Ev (fun k => sat_Eval.l0 k ((bits.take i).map b2i ++ List.replicate (bits.length - i) 0) bits (bits.length : Int) (i : Int) n0 gs n2) (r.1 == 1, r.2) := by
  intro t
  induction t with
  | nil =>
    intro i h hi
    have := rest_nil hi h
    subst this
    rw [List.take_length, Nat.sub_self, List.replicate_zero, List.append_nil]
    refine Ev.step (fun k => by simp only [sat_Eval.l0]; rw [if_neg (by omega)]) (Ev.bind hr (Ev.now _))
  | cons x t ih =>
    intro i h hi
    obtain ⟨h1, h2, h3⟩ := restB h
    have ih := ih (i + 1) h3 (by omega)
    have hx : bits[i] = x := by
      rw [List.drop_eq_getElem_cons h1] at h
      injection h
    have e : List.replicate (bits.length - i) (0 : Int) = 0 :: List.replicate (bits.length - (i + 1)) 0 := by
      rw [show bits.length - i = (bits.length - (i + 1)) + 1 by omega, List.replicate_succ]
    rw [e]
    rw [List.take_succ_eq_append_getElem h1, hx, List.map_append, List.append_assoc] at ih
    refine Ev.step (fun k => ?_) ih
    simp only [sat_Eval.l0, h2]
    rw [if_pos (by omega), if_pos (by omega), if_pos (by omega), w64 (by omega) (by omega)]
    cases x with
    | true =>
      rw [if_pos rfl, if_pos (by simp; omega), Int.toNat_natCast, set_mid _ _ _ _ _ (by simp; omega)]
      rfl
    | false =>
      rw [if_neg (by decide)]
      rfl
theorem eval (n0 : Int) (gs : List S52) (n2 : Int) (hs : Sm gs) (bits : List Bool) (hl : bits.length ≤ 1000000) :
    Ev (fun k => sat_Eval.f k n0 gs n2 bits) (if okP n0 gs n2 (bits.map b2i) = true then (out3 gs n2 (bits.map b2i) == 1, 0) else (false, 1)) := by
  have h := eval_loop n0 gs n2 bits hl _ (three n0 gs n2 hs (bits.map b2i) (by rw [List.length_map]; omega)) bits 0 rfl (Nat.zero_le _)
  have e : (((if okP n0 gs n2 (bits.map b2i) = true then (out3 gs n2 (bits.map b2i), 0) else (0, 1)) : Int × Int).1 == 1, ((if okP n0 gs n2 (bits.map b2i) = true then (out3 gs n2 (bits.map b2i), 0) else (0, 1)) : Int × Int).2) = (if okP n0 gs n2 (bits.map b2i) = true then (out3 gs n2 (bits.map b2i) == 1, (0 : Int)) else (false, 1)) := by
    split <;> rfl
  rw [e] at h
  refine Ev.congr (fun k => ?_) h
  simp only [sat_Eval.f]
  rw [if_pos (by omega), if_pos (by omega), Int.toNat_natCast]
  rfl
/-! two values -/
def Two (l : List Int) : Prop := ∀ v ∈ l, v = 0 ∨ v = 1
theorem joinF0 : ∀ (l : List Bool) (c : Bool), joinF 0 (b2i c) (l.map b2i) = b2i (c && l.all id) ∨ False
  | [], c => .inl (by simp [joinF])
  | b :: l, c => by
    refine .inl ?_
    rw [List.map_cons, joinF]
    cases b with
    | false => simp [b2i]
    | true =>
      rw [if_neg (by simp [b2i]), if_neg (by simp [b2i])]
      rcases joinF0 l c with h | h
      · rw [h]; simp
      · exact h.elim
theorem joinF1 : ∀ (l : List Bool) (c : Bool), joinF 1 (b2i c) (l.map b2i) = b2i (c || l.any id)
  | [], c => by simp [joinF]
  | b :: l, c => by
    rw [List.map_cons, joinF]
    cases b with
    | true => simp [b2i]
    | false =>
      rw [if_neg (by simp [b2i]), if_neg (by simp [b2i]), joinF1 l c]
      simp
/-- A gate's value, two-valued. -/
def bstep (bits vs : List Bool) (g : S52) : Bool :=
  if g.f0 = 1 then false else if g.f0 = 2 then true else if g.f0 = 3 then rdOf false bits g.f1 else if g.f0 = 4 then !(rdOf false vs (rd g.f2 0)) else if g.f0 = 6 then (g.f2.map (rdOf false vs)).any id else (g.f2.map (rdOf false vs)).all id
def bvalsG (bits : List Bool) : List S52 → List Bool → List Bool
  | [], vs => vs
  | g :: gs, vs => bvalsG bits gs (vs ++ [bstep bits vs g])
theorem bvalsG_length (bits : List Bool) : ∀ (gs : List S52) (vs : List Bool), (bvalsG bits gs vs).length = vs.length + gs.length
  | [], vs => rfl
  | g :: gs, vs => by rw [bvalsG, bvalsG_length bits gs]; simp; omega
theorem rd_b2i (l : List Bool) (i : Int) : rd (l.map b2i) i = b2i (rdOf false l i) := by
  unfold rd rdOf
  rw [List.getD_eq_getElem?_getD, List.getD_eq_getElem?_getD, List.getElem?_map]
  cases l[i.toNat]? <;> rfl
theorem vstep_b (bits vs : List Bool) (g : S52) : vstep (bits.map b2i) (vs.map b2i) g = b2i (bstep bits vs g) := by
  unfold vstep bstep
  split
  · rfl
  split
  · rfl
  split
  · exact rd_b2i _ _
  split
  · rw [rd_b2i]
    cases rdOf false vs (rd g.f2 0) <;> rfl
  have e : g.f2.map (rd (vs.map b2i)) = (g.f2.map (rdOf false vs)).map b2i := by
    rw [List.map_map]
    exact List.map_congr_left (fun x _ => rd_b2i vs x)
  rw [e]
  unfold strongG
  split
  · have := joinF1 (g.f2.map (rdOf false vs)) false
    rw [Bool.false_or] at this
    exact this
  · rcases joinF0 (g.f2.map (rdOf false vs)) true with h | h
    · rw [Bool.true_and] at h
      exact h
    · exact h.elim
theorem vals_b (bits : List Bool) : ∀ (gs : List S52) (vs : List Bool), valsG (bits.map b2i) gs (vs.map b2i) = (bvalsG bits gs vs).map b2i
  | [], vs => rfl
  | g :: gs, vs => by
    have h := vals_b bits gs (vs ++ [bstep bits vs g])
    rw [List.map_append, List.map_singleton, ← vstep_b] at h
    exact h
theorem out3_b (gs : List S52) (n2 : Int) (bits : List Bool) : out3 gs n2 (bits.map b2i) = b2i (rdOf false (bvalsG bits gs []) n2) := by
  unfold out3
  have h := vals_b bits gs []
  rw [List.map_nil] at h
  rw [h, rd_b2i]
theorem b2i_one (b : Bool) : (b2i b == 1) = b := by cases b <;> rfl
/-! the reference's values -/
theorem rjoin (s : Int) (hs : s = 0 ∨ s = 1) (l : List Int) (hl : l.length ≤ 1000000) : Ev (fun k => pentaglotref28_join.f k s l) (joinF s (1 - s) l) := by
  have loop : ∀ (t : List Int) (i : Nat) (c : Int), l.drop i = t → i ≤ l.length → Ev (fun k => pentaglotref28_join.l0 k s c l (l.length : Int) (i : Int)) (joinF s c t) := by
    intro t
    induction t with
    | nil =>
      intro i c h hi
      have := rest_nil hi h
      refine Ev.step (f := fun _ => some c) (fun k => ?_) (Ev.now _)
      simp only [pentaglotref28_join.l0]
      rw [if_neg (by omega)]
    | cons x t ih =>
      intro i c h hi
      obtain ⟨h1, h2, h3⟩ := rest h
      rw [joinF]
      by_cases hx : x = s
      · rw [if_pos hx]
        refine Ev.step (f := fun _ => some s) (fun k => ?_) (Ev.now _)
        simp only [pentaglotref28_join.l0, h2]
        rw [if_pos (by omega), if_pos (by omega), if_pos (by omega), if_pos hx]
      · rw [if_neg hx]
        by_cases h2' : x = 2
        · rw [if_pos h2']
          refine Ev.step (fun k => ?_) (ih (i + 1) 2 h3 (by omega))
          simp only [pentaglotref28_join.l0, h2]
          rw [if_pos (by omega), if_pos (by omega), if_pos (by omega), if_neg hx, if_pos h2', w64 (by omega) (by omega)]
          rfl
        · rw [if_neg h2']
          refine Ev.step (fun k => ?_) (ih (i + 1) c h3 (by omega))
          simp only [pentaglotref28_join.l0, h2]
          rw [if_pos (by omega), if_pos (by omega), if_pos (by omega), if_neg hx, if_neg h2', w64 (by omega) (by omega)]
          rfl
  have h := loop l 0 (1 - s) rfl (Nat.zero_le _)
  refine Ev.congr (fun k => ?_) h
  simp only [pentaglotref28_join.f]
  rw [w64 (by omega) (by omega)]
  rfl
theorem all_drop {i : Int} {l : List Int} (h : l.all (inB i) = true) (j : Nat) : (l.drop j).all (inB i) = true := by
  rw [List.all_eq_true] at h ⊢
  exact fun x hx => h x (List.mem_of_mem_drop hx)
theorem rvals_kids (gs : List S52) (hgs : gs.length ≤ 60) (bits acc : List Int) (g : S52) (i : Nat) (hg : g.f2.length ≤ 50) (hk : g.f2.all (inB acc.length) = true) (r : List Int)
    (hr : Ev (fun k => pentaglotref28_Values.l1 k bits acc (g.f2.map (rd acc)) gs (gs.length : Int) (i : Int) g.f2 (g.f2.length : Int) (g.f2.length : Int) g.f0 g.f1 g.f2) r) : ∀ (t : List Int) (j : Nat), g.f2.drop j = t → j ≤ g.f2.length →
    Ev (fun k => pentaglotref28_Values.l1 k bits acc ((g.f2.take j).map (rd acc)) gs (gs.length : Int) (i : Int) g.f2 (g.f2.length : Int) (j : Int) g.f0 g.f1 g.f2) r := by
  intro t
  induction t with
  | nil =>
    intro j h hj
    have := rest_nil hj h
    subst this
    rw [List.take_length]
    exact hr
  | cons x t ih =>
    intro j h hj
    obtain ⟨h1, h2, h3⟩ := rest h
    have ih := ih (j + 1) h3 (by omega)
    have hx : g.f2[j] = x := by
      rw [List.drop_eq_getElem_cons h1] at h
      injection h
    rw [List.take_succ_eq_append_getElem h1, hx, List.map_append, List.map_singleton] at ih
    have hxk : inB acc.length x = true := by rw [← hx]; exact List.all_eq_true.1 hk _ (List.getElem_mem _)
    obtain ⟨x0, x1⟩ := inB_iff.1 hxk
    refine Ev.step (fun k => ?_) ih
    simp only [pentaglotref28_Values.l1, h2]
    rw [if_pos (by omega), if_pos (by omega), if_pos (by omega), if_pos x0, if_pos x1, if_pos (by simp; omega), w64 (by omega) (by omega)]
    rfl
theorem rd_three (v : Int) (h0 : 0 ≤ v) (h2 : v ≤ 2) : rd ([1, 0, 2] : List Int) v = negF v := by
  have : v = 0 ∨ v = 1 ∨ v = 2 := by omega
  rcases this with rfl | rfl | rfl <;> rfl
theorem rvals_loop (n0 : Int) (gs : List S52) (hs : Sm gs) (bits : List Int) (hb : (bits.length : Int) = n0) (hl : bits.length ≤ 1000000) (htb : Tri bits) : ∀ (t : List S52) (i : Nat) (acc : List Int), gs.drop i = t → i ≤ gs.length → acc.length = i → Tri acc → okL n0 i t = true →
    Ev (fun k => pentaglotref28_Values.l0 k bits acc gs (gs.length : Int) (i : Int)) (valsG bits t acc) := by
  intro t
  induction t with
  | nil =>
    intro i acc h hi ha ht ho
    have := rest_nil hi h
    refine Ev.step (f := fun _ => some acc) (fun k => ?_) (Ev.now _)
    simp only [pentaglotref28_Values.l0]
    rw [if_neg (by omega)]
  | cons g t ih =>
    intro i acc h hi ha ht ho
    obtain ⟨h1, h2, h3⟩ := rest52 h
    rw [okL, Bool.and_eq_true] at ho
    obtain ⟨hg, hot⟩ := ho
    have hg' := hg
    unfold okG at hg
    rw [Bool.and_eq_true] at hg
    obtain ⟨hk, hop⟩ := hg
    have hmem : g ∈ gs := by rw [← List.take_append_drop i gs, h]; simp
    have hkl := hs.2 g hmem
    have hgl := hs.1
    have ih := ih (i + 1) (acc ++ [vstep bits acc g]) h3 (by omega) (by simp; omega) (fun v hv => by
        rcases List.mem_append.1 hv with hv | hv
        · exact ht v hv
        · obtain rfl := List.mem_singleton.1 hv
          exact vstep_tri htb ht g) hot
    rw [valsG]
    refine Ev.step (fun k => by simp only [pentaglotref28_Values.l0, h2]; rw [if_pos (by omega : (i : Int) < (gs.length : Int)), if_pos (by omega : (0 : Int) ≤ (i : Int)), if_pos (by omega : (i : Int) < (gs.length : Int))]) ?_
    refine rvals_kids gs hgl bits acc g i hkl (by rw [ha]; exact hk) _ ?_ g.f2 0 rfl (Nat.zero_le _)
    have fin : ∀ v, v = vstep bits acc g → Ev (fun k => if acc.length < 17592186044416 then pentaglotref28_Values.l0 k bits (acc ++ [v]) gs (gs.length : Int) (wrap64 ((i : Int) + 1)) else none) (valsG bits t (acc ++ [vstep bits acc g])) := by
      rintro v rfl
      simp only [if_pos (by omega : acc.length < 17592186044416)]
      rw [w64 (by omega) (by omega)]
      exact ih
    refine Ev.step (fun k => by simp only [pentaglotref28_Values.l1]; rw [if_neg (by omega : ¬ (g.f2.length : Int) < (g.f2.length : Int))]) ?_
    by_cases o2 : g.f0 = 2
    · simp only [if_pos o2]
      exact fin 1 (by unfold vstep; rw [if_neg (by omega), if_pos o2])
    simp only [if_neg o2]
    by_cases o3 : g.f0 = 3
    · simp only [if_pos o3]
      unfold opG at hop
      rw [if_neg (by omega), if_pos o3] at hop
      simp only [Bool.and_eq_true, decide_eq_true_eq] at hop
      simp only [if_pos (by omega : 0 ≤ g.f1), if_pos (by omega : g.f1 < (bits.length : Int))]
      exact fin (rd bits g.f1) (by unfold vstep; rw [if_neg (by omega), if_neg o2, if_pos o3])
    simp only [if_neg o3]
    by_cases o4 : g.f0 = 4
    · simp only [if_pos o4]
      unfold opG at hop
      rw [if_neg (by omega), if_neg o3, if_pos o4] at hop
      simp only [Bool.and_eq_true, beq_iff_eq] at hop
      have hl1 : g.f2.length = 1 := by omega
      have e0 : rd (g.f2.map (rd acc)) 0 = rd acc (rd g.f2 0) := by
        rw [show (0 : Int) = ((0 : Nat) : Int) from rfl, rd_at _ 0 (by simp; omega), rd_at g.f2 0 (by omega), List.getElem_map]
      have tr := ht.rd_ (rd g.f2 0)
      simp only [Option.bind_some, e0]
      have ll : ((([1, 0, 2] : List Int).length : Nat) : Int) = 3 := rfl
      simp only [if_pos (by rw [List.length_map]; omega : 0 < (((g.f2.map (rd acc)).length : Nat) : Int)), if_pos tr.1, if_pos (by rw [ll]; omega : rd acc (rd g.f2 0) < ((([1, 0, 2] : List Int).length : Nat) : Int))]
      refine fin _ ?_
      rw [rd_three _ tr.1 tr.2]
      unfold vstep
      rw [if_neg (by omega), if_neg o2, if_neg o3, if_pos o4]
    simp only [if_neg o4]
    by_cases o5 : g.f0 = 5
    · simp only [if_pos o5]
      refine Ev.bind (rjoin 0 (.inl rfl) _ (by simp; omega)) (fin _ ?_)
      unfold vstep strongG
      rw [if_neg (by omega), if_neg o2, if_neg o3, if_neg o4, if_neg (by omega)]
    simp only [if_neg o5]
    by_cases o6 : g.f0 = 6
    · simp only [if_pos o6]
      refine Ev.bind (rjoin 1 (.inr rfl) _ (by simp; omega)) (fin _ ?_)
      unfold vstep strongG
      rw [if_neg (by omega), if_neg o2, if_neg o3, if_neg o4, if_pos o6]
    simp only [if_neg o6]
    have o1 : g.f0 = 1 := by
      unfold opG at hop
      by_cases o1 : g.f0 = 1
      · exact o1
      · rw [if_neg (by omega), if_neg o3, if_neg o4, if_neg (by omega)] at hop
        cases hop
    exact fin 0 (by unfold vstep; rw [if_pos o1])
theorem rvals {n0 : Int} {gs : List S52} {n2 : Int} (hs : Sm gs) (h : okC n0 gs n2 = true) {bits : List Int} (hb : (bits.length : Int) = n0) (ht : Tri bits) : Ev (fun k => pentaglotref28_Values.f k n0 gs n2 bits) (valsG bits gs []) := by
  obtain ⟨_, h2, _, _, h5, h6, h7⟩ := okC_iff.1 h
  exact rvals_loop n0 gs hs bits hb (by omega) ht gs 0 [] rfl (Nat.zero_le _) rfl (fun v hv => by cases hv) h7
theorem rthree {n0 : Int} {gs : List S52} {n2 : Int} (hs : Sm gs) (h : okC n0 gs n2 = true) {bits : List Int} (hb : (bits.length : Int) = n0) (ht : Tri bits) : Ev (fun k => pentaglotref28_Three.f k n0 gs n2 bits) (out3 gs n2 bits) := by
  obtain ⟨_, _, _, _, h5, h6, h7⟩ := okC_iff.1 h
  unfold pentaglotref28_Three.f
  refine Ev.bind (rvals hs h hb ht) ?_
  rw [if_pos h5, if_pos (by rw [valsG_length]; simp; omega)]
  exact Ev.now _
end Go.Proofs.Ytflknolnclnhfaa.Sv
