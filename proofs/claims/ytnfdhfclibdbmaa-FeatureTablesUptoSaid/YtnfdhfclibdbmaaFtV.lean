/- Plain facts on the program's and the reference's Name and Valid, and on Get. -/
import Derived.Test.YtnfdhfclibdbmaaPx0
import Derived.Test.YtnfdhfclibdbmaaPx3
import Derived.Test.YtnfdhfclibdbmaaPx5
import Derived.Test.YtnfdhfclibdbmaaPx6
import Derived.Test.YtnfdhfclibdbmaaFtS
namespace Go.Proofs.Ytnfdhfclibdbmaa.Ft
open Go
set_option linter.unusedVariables false
set_option linter.unusedSimpArgs false
open Go.RowKit Go.Proofs.Ytnfdhfclibdbmaa.P Go.Proofs.YtnfdhfclibdbmaaW.PrintWords Go.Proofs.YtnfdhfclibdbmaaW.PrintLast
theorem size_list (s : ByteArray) : s.toList.length = s.size := by rw [ByteArray.toList_eq]; exact data_length s
theorem name_eq_loop : ∀ (k : Nat) (s : ByteArray) (i : Int), feature_name.l0 k s i = pentaglotref02_Name.l0 k s i
  | 0, _, _ => rfl
  | k + 1, s, i => by
    have e : (s.toList != ([] : List UInt8)) = decide ((s.size : Int) > 0) := by
      have := size_list s
      cases h : s.toList with
      | nil => rw [h] at this; simp at this; simp [← this]
      | cons x t => rw [h] at this; simp at this; simp [← this]
    simp only [feature_name.l0, pentaglotref02_Name.l0, name_eq_loop k, e]
theorem name_eq (k : Nat) (s : ByteArray) : feature_name.f k s = pentaglotref02_Name.f k s := name_eq_loop k s 0
theorem name_ev_loop (s : ByteArray) (hs : s.size ≤ 4000000000) : ∀ (n i : Nat), s.size ≤ i + n → ∃ v, Ev (fun z => pentaglotref02_Name.l0 z s (i : Int)) v := by
  intro n
  induction n with
  | zero =>
    intro i h
    refine ⟨_, Ev.step (fun z => ?_) (Ev.now (decide ((s.size : Int) > 0)))⟩
    simp only [pentaglotref02_Name.l0]
    rw [if_neg (by omega)]
  | succ n ih =>
    intro i h
    by_cases hi : (i : Int) < (s.size : Int)
    · obtain ⟨v, hv⟩ := ih (i + 1) (by omega)
      have e2 : wrap64 ((i : Int) + 1) = ((i + 1 : Nat) : Int) := by rw [w64 (by omega) (by omega)]; omega
      by_cases ok : (97 ≤ bt s i ∧ bt s i ≤ 122) ∨ (48 ≤ bt s i ∧ bt s i ≤ 57) ∨ bt s i = 45
      · refine ⟨v, Ev.step (fun z => ?_) hv⟩
        simp only [pentaglotref02_Name.l0]
        rw [if_pos hi, if_pos (by omega), e2]
        split <;> split <;> (first | omega | skip) <;> (try split) <;> (first | omega | rfl | (split <;> (first | omega | rfl | (split <;> (first | omega | rfl)))))
      · refine ⟨false, Ev.step (f := fun _ => some false) (fun z => ?_) (Ev.now _)⟩
        simp only [pentaglotref02_Name.l0]
        rw [if_pos hi, if_pos (by omega), e2]
        split <;> split <;> (first | omega | skip) <;> (try split) <;> (first | omega | rfl | (split <;> (first | omega | rfl | (split <;> (first | omega | rfl)))))
    · refine ⟨_, Ev.step (fun z => ?_) (Ev.now (decide ((s.size : Int) > 0)))⟩
      simp only [pentaglotref02_Name.l0]
      rw [if_neg hi]
theorem name_ev (s : ByteArray) (hs : s.size ≤ 4000000000) : ∃ v, Ev (fun z => pentaglotref02_Name.f z s) v := name_ev_loop s hs s.size 0 (by omega)
theorem size_bulk : ∀ (l : List S33) (x : S33), x ∈ l → x.f0.size + x.f1.size ≤ (l.map bulk33).sum
  | [], _, h => by cases h
  | y :: l, x, h => by
    rcases List.mem_cons.1 h with rfl | h
    · simp [bulk33]; omega
    · have := size_bulk l x h
      simp; omega
/-- Both Valids answer alike: every name and value is one, the names ascend, and there are at most eight. -/
theorem valid (r : List S33) (hb : (r.map bulk33).sum ≤ 1048576) : ∃ v, Ev (fun z => feature_Valid.f z r) v ∧ Ev (fun z => pentaglotref02_Valid.f z r) v := by
  have hlen := len_bulk r
  have sz := size_bulk r
  obtain ⟨vr, hvr, hmr⟩ := record r (by omega)
  -- the reference: names first, then length, then order
  have loop : ∀ (R pre : List S33) (i : Nat), r = pre ++ R → pre.length = i → Asc (ims pre) →
      ∃ v, Ev (fun z => feature_Valid.l0 z r r (r.length : Int) (i : Int)) v ∧ Ev (fun z => pentaglotref02_Valid.l0 z r (i : Int)) v := by
    have dead : ∀ (R : List S33) (i : Nat), r.drop i = R → i ≤ r.length → ¬ Asc (ims r) → Ev (fun z => pentaglotref02_Valid.l0 z r (i : Int)) false := by
      intro R
      induction R with
      | nil =>
        intro i hd hi hna
        have := rest_nil hi hd
        have hvf : vr = false := by
          cases vr with
          | false => rfl
          | true => exact absurd (hmr.1 rfl) hna
        by_cases h8 : (r.length : Int) ≤ 8
        · refine Ev.step (fun z => by simp only [pentaglotref02_Valid.l0]; rw [if_neg (by omega), if_pos h8]) (Ev.bind hvr ?_)
          rw [hvf]
          exact Ev.now _
        · refine Ev.step (f := fun _ => some false) (fun z => by simp only [pentaglotref02_Valid.l0]; rw [if_neg (by omega), if_neg h8]) (Ev.now _)
      | cons x R ih =>
        intro i hd hi hna
        obtain ⟨hil, hx, hd'⟩ := rest hd
        have hxr : x ∈ r := by rw [← hx]; unfold rd_T33; rw [Int.toNat_natCast, List.getD_eq_getElem?_getD, List.getElem?_eq_getElem hil]; exact List.getElem_mem _
        have := sz x hxr
        obtain ⟨v0, h0⟩ := name_ev x.f0 (by omega)
        obtain ⟨v1, h1⟩ := name_ev x.f1 (by omega)
        have e2 : wrap64 ((i : Int) + 1) = ((i + 1 : Nat) : Int) := by rw [w64 (by omega) (by omega)]; omega
        refine Ev.step (f := fun z => (pentaglotref02_Name.f z x.f0).bind fun t261 => (if t261 = true then ((pentaglotref02_Name.f z x.f1).bind fun t263 => (if t263 = true then (pentaglotref02_Valid.l0 z r ((i + 1 : Nat) : Int)) else (some false))) else (some false))) (fun z => ?_) (Ev.bind h0 ?_)
        · simp only [pentaglotref02_Valid.l0]
          rw [if_pos (by omega), if_pos (by omega), hx, e2]
        · cases v0 with
          | false => simp only [Bool.false_eq_true, if_false]; exact Ev.now _
          | true =>
            simp only [if_true]
            refine Ev.bind h1 ?_
            cases v1 with
            | false => simp only [Bool.false_eq_true, if_false]; exact Ev.now _
            | true => simp only [if_true]; exact ih (i + 1) hd' (by omega) hna
    intro R
    induction R with
    | nil =>
      intro pre i hr hi hA
      have hpr : pre = r := by rw [hr]; simp
      have hri : r.length = i := by rw [← hpr]; exact hi
      rw [hpr] at hA
      have hvt : vr = true := hmr.2 hA
      refine ⟨decide ((r.length : Int) ≤ 8), Ev.step (f := fun _ => some (decide ((r.length : Int) ≤ 8))) (fun z => by simp only [feature_Valid.l0]; rw [if_neg (by omega)]) (Ev.now _), ?_⟩
      by_cases h8 : (r.length : Int) ≤ 8
      · refine Ev.step (fun z => by simp only [pentaglotref02_Valid.l0]; rw [if_neg (by omega), if_pos h8]) (Ev.bind hvr ?_)
        rw [hvt, decide_eq_true h8]
        exact Ev.now _
      · refine Ev.step (f := fun _ => some false) (fun z => by simp only [pentaglotref02_Valid.l0]; rw [if_neg (by omega), if_neg h8]) ?_
        rw [decide_eq_false h8]
        exact Ev.now _
    | cons x R ih =>
      intro pre i hr hi hA
      have hd : r.drop i = x :: R := by rw [hr, ← hi, List.drop_left]
      obtain ⟨hil, hx, hd'⟩ := rest hd
      have hxr : x ∈ r := by rw [hr]; simp
      have := sz x hxr
      obtain ⟨v0, h0⟩ := name_ev x.f0 (by omega)
      obtain ⟨v1, h1⟩ := name_ev x.f1 (by omega)
      have e2 : wrap64 ((i : Int) + 1) = ((i + 1 : Nat) : Int) := by rw [w64 (by omega) (by omega)]; omega
      have p1 : ∀ v, Ev (fun z => (pentaglotref02_Name.f z x.f0).bind fun t261 => (if t261 = true then ((pentaglotref02_Name.f z x.f1).bind fun t263 => (if t263 = true then (pentaglotref02_Valid.l0 z r ((i + 1 : Nat) : Int)) else (some false))) else (some false))) v → Ev (fun z => pentaglotref02_Valid.l0 z r (i : Int)) v := by
        intro v hv
        refine Ev.step (fun z => ?_) hv
        simp only [pentaglotref02_Valid.l0]
        rw [if_pos (by omega), if_pos (by omega), hx, e2]
      have p2 : ∀ v, Ev (fun z => (pentaglotref02_Name.f z x.f0).bind fun t128 => (if t128 = true then ((pentaglotref02_Name.f z x.f1).bind fun t129 => (if t129 = true then (if (i : Int) > 0 then (if 0 ≤ (wrap64 ((i : Int) - 1)) then (if (wrap64 ((i : Int) - 1)) < (r.length : Int) then (if ((Op.bytesLess (((rd_T33 r (wrap64 ((i : Int) - 1))).f0).toList) (x.f0.toList)) = true) then (feature_Valid.l0 z r r (r.length : Int) ((i + 1 : Nat) : Int)) else (some false)) else (none)) else (none)) else (feature_Valid.l0 z r r (r.length : Int) ((i + 1 : Nat) : Int))) else (some false))) else (some false))) v → Ev (fun z => feature_Valid.l0 z r r (r.length : Int) (i : Int)) v := by
        intro v hv
        refine Ev.step (fun z => ?_) hv
        simp only [feature_Valid.l0]
        rw [if_pos (by omega), if_pos (by omega), if_pos (by omega), hx, e2]
        simp only [name_eq]
      cases v0 with
      | false =>
        refine ⟨false, p2 _ (Ev.bind h0 ?_), p1 _ (Ev.bind h0 ?_)⟩
        · simp only [Bool.false_eq_true, if_false]; exact Ev.now _
        · simp only [Bool.false_eq_true, if_false]; exact Ev.now _
      | true =>
      cases v1 with
      | false =>
        refine ⟨false, p2 _ (Ev.bind h0 ?_), p1 _ (Ev.bind h0 ?_)⟩
        · simp only [if_true]
          refine Ev.bind h1 ?_
          simp only [Bool.false_eq_true, if_false]; exact Ev.now _
        · simp only [if_true]
          refine Ev.bind h1 ?_
          simp only [Bool.false_eq_true, if_false]; exact Ev.now _
      | true =>
        have lift : ∀ v, Ev (fun z => pentaglotref02_Valid.l0 z r ((i + 1 : Nat) : Int)) v → Ev (fun z => pentaglotref02_Valid.l0 z r (i : Int)) v := by
          intro v hv
          refine p1 v (Ev.bind h0 ?_)
          simp only [if_true]
          refine Ev.bind h1 ?_
          simp only [if_true]
          exact hv
        have lift2 : ∀ v, Ev (fun z => (if (i : Int) > 0 then (if 0 ≤ (wrap64 ((i : Int) - 1)) then (if (wrap64 ((i : Int) - 1)) < (r.length : Int) then (if ((Op.bytesLess (((rd_T33 r (wrap64 ((i : Int) - 1))).f0).toList) (x.f0.toList)) = true) then (feature_Valid.l0 z r r (r.length : Int) ((i + 1 : Nat) : Int)) else (some false)) else (none)) else (none)) else (feature_Valid.l0 z r r (r.length : Int) ((i + 1 : Nat) : Int)))) v → Ev (fun z => feature_Valid.l0 z r r (r.length : Int) (i : Int)) v := by
          intro v hv
          refine p2 v (Ev.bind h0 ?_)
          simp only [if_true]
          refine Ev.bind h1 ?_
          simp only [if_true]
          exact hv
        cases pre with
        | nil =>
          have hi0 : i = 0 := by simpa using hi.symm
          subst hi0
          obtain ⟨v, ha, hb⟩ := ih [x] 1 (by rw [hr]; rfl) rfl ⟨(fun y hy => nomatch hy), trivial⟩
          refine ⟨v, lift2 v (Ev.congr (fun z => ?_) ha), lift v hb⟩
          rw [if_neg (by omega)]
        | cons p0 pt =>
          obtain ⟨q, y, hq⟩ : ∃ q y, p0 :: pt = q ++ [y] := ⟨(p0 :: pt).dropLast, (p0 :: pt).getLast (by simp), (List.dropLast_concat_getLast (by simp)).symm⟩
          rw [hq] at hr hi hA
          have hqi : q.length + 1 = i := by simpa using hi
          have hy : rd_T33 r (wrap64 ((i : Int) - 1)) = y := by
            have : wrap64 ((i : Int) - 1) = (q.length : Int) := by rw [w64 (by omega) (by omega)]; omega
            rw [this]
            exact rd_cons (t := x :: R) (by rw [hr]; simp)
          have ew : 0 ≤ wrap64 ((i : Int) - 1) ∧ wrap64 ((i : Int) - 1) < (r.length : Int) := by rw [w64 (by omega) (by omega)]; omega
          by_cases hl : ls y.f0.toList x.f0.toList = true
          · obtain ⟨v, ha, hb⟩ := ih (q ++ [y] ++ [x]) (i + 1) (by rw [hr]; simp) (by simp; omega) (by
              rw [ims_append]
              refine asc_snoc hA (fun z hz => ?_)
              rw [ims_append] at hz hA
              rcases List.mem_append.1 hz with hz | hz
              · exact ls_trans _ _ _ ((asc_append.1 hA).2.2 z hz (im y) List.mem_cons_self) hl
              · rw [List.mem_singleton.1 hz]; exact hl)
            refine ⟨v, lift2 v (Ev.congr (fun z => ?_) ha), lift v hb⟩
            rw [if_pos (by omega), if_pos ew.1, if_pos ew.2, hy, if_pos (show Op.bytesLess _ _ = true from hl)]
          · refine ⟨false, lift2 _ (Ev.congr (fun z => ?_) (Ev.now false)), lift _ (dead R (i + 1) hd' (by omega) (fun hAr => hl ?_))⟩
            · rw [if_pos (by omega), if_pos ew.1, if_pos ew.2, hy, if_neg (show ¬ Op.bytesLess _ _ = true from hl)]
            · rw [hr, ims_append, ims_append] at hAr
              exact (asc_append.1 hAr).2.2 (im y) (List.mem_append_right _ List.mem_cons_self) (im x) List.mem_cons_self
  exact loop r [] 0 rfl rfl trivial
theorem getv_loop (r : List S33) (hlen : r.length ≤ 4000000000) (n : ByteArray) : ∀ (R : List S33) (i : Nat), r.drop i = R → i ≤ r.length → ∃ v, Ev (fun z => feature_Get.l0 z n r (r.length : Int) (i : Int)) v ∧
    ((v.2 = true ∧ get (ims R) n.toList = some v.1.toList) ∨ (v.2 = false ∧ v.1.toList = [] ∧ get (ims R) n.toList = none)) := by
  intro R
  induction R with
  | nil =>
    intro i h hi
    have := rest_nil hi h
    refine ⟨((⟨#[]⟩ : ByteArray), false), Ev.step (f := fun _ => some ((⟨#[]⟩ : ByteArray), false)) (fun z => ?_) (Ev.now _), .inr ⟨rfl, by rw [ByteArray.toList_eq], rfl⟩⟩
    simp only [feature_Get.l0]
    rw [if_neg (by omega)]
  | cons x R ih =>
    intro i h hi'
    obtain ⟨hi, hx, h'⟩ := rest h
    by_cases e : x.f0.toList = n.toList
    · refine ⟨(x.f1, true), Ev.step (f := fun _ => some (x.f1, true)) (fun z => ?_) (Ev.now _), .inl ⟨rfl, ?_⟩⟩
      · simp only [feature_Get.l0]
        rw [if_pos (by omega), if_pos (by omega), if_pos (by omega), hx, if_pos e]
      · rw [ims_cons, get, if_pos (by exact e)]; rfl
    · obtain ⟨v, hv, hm⟩ := ih (i + 1) h' (by omega)
      refine ⟨v, Ev.step (fun z => ?_) hv, ?_⟩
      · simp only [feature_Get.l0]
        rw [if_pos (by omega), if_pos (by omega), if_pos (by omega), hx, if_neg e, w64 (by omega) (by omega)]
        rfl
      · rw [ims_cons, get, if_neg (by exact e)]
        exact hm
theorem getv (r : List S33) (hlen : r.length ≤ 4000000000) (n : ByteArray) : ∃ v, Ev (fun z => feature_Get.f z r n) v ∧
    ((v.2 = true ∧ get (ims r) n.toList = some v.1.toList) ∨ (v.2 = false ∧ v.1.toList = [] ∧ get (ims r) n.toList = none)) := getv_loop r hlen n r 0 rfl (Nat.zero_le _)
end Go.Proofs.Ytnfdhfclibdbmaa.Ft
