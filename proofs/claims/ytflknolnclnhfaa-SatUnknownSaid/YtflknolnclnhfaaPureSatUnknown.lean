/- Plain law: for all circuits with at most 60 gates and partial assignments of at most 40 inputs, a three-valued output that is known is the output whatever the unknown inputs are, and it is known where no input is unknown. No condition beyond the law's own. -/
import Derived.Test.YtflknolnclnhfaaPx0
import Derived.Test.YtflknolnclnhfaaPx2
import Derived.Test.YtflknolnclnhfaaPx4
import Derived.Test.YtflknolnclnhfaaPx17
import Derived.Test.YtflknolnclnhfaaSvC
namespace Go.Proofs.Ytflknolnclnhfaa.Pure
set_option linter.unusedVariables false
open Go.RowKit Go.Proofs.Ytflknolnclnhfaa.P Go.Proofs.Ytflknolnclnhfaa.Sv Go.Proofs.YtflknolnclnhfaaW.PrintWords Go.Proofs.YtflknolnclnhfaaW.PrintLast
/-- The assignment that the law makes of a partial one. -/
def fillB (x : Int) (b : Bool) : Bool := if x = 1 then true else if x = 2 then b else false
def fills (l : List Int) (bs : List Bool) : List Bool := List.zipWith fillB l bs
theorem rdOf_at (l : List Bool) (i : Nat) (h : i < l.length) : rdOf false l (i : Int) = l[i] := by
  unfold rdOf
  rw [Int.toNat_natCast, List.getD_eq_getElem?_getD, List.getElem?_eq_getElem h]
  rfl
theorem fill_ref {l : List Int} {bs : List Bool} (ht : Tri l) (hl : bs.length = l.length) : Ref l ((fills l bs).map b2i) := by
  have hfl : (fills l bs).length = l.length := by simp [fills, hl]
  refine ⟨by rw [List.length_map, hfl], ?_⟩
  have nat : ∀ i : Nat, rd l (i : Int) ≠ 2 → rd ((fills l bs).map b2i) (i : Int) = rd l (i : Int) := by
    intro i hi
    by_cases h : i < l.length
    · rw [rd_at l i h] at hi ⊢
      rw [rd_b2i, rdOf_at _ i (by rw [hfl]; exact h)]
      have ht := ht _ (List.getElem_mem h)
      unfold fills
      rw [List.getElem_zipWith]
      unfold fillB b2i
      by_cases h1 : l[i] = 1
      · rw [if_pos h1, if_pos rfl, h1]
      · rw [if_neg h1, if_neg hi, if_neg (by decide)]
        omega
    · rw [rd_out (l := (fills l bs).map b2i) (by rw [List.length_map, hfl]; omega), rd_out (l := l) (by omega)]
  intro i hi
  by_cases h : i < 0
  · rw [rd_neg h] at hi ⊢
    rw [rd_neg h]
    exact nat 0 hi
  · obtain ⟨j, rfl⟩ := Int.eq_ofNat_of_zero_le (by omega : 0 ≤ i)
    exact nat j hi
theorem fill_known {l : List Int} {bs : List Bool} (ht : Tri l) (hl : bs.length = l.length) (hk : l.all (fun x => x != 2) = true) : (fills l bs).map b2i = l := by
  apply List.ext_getElem
  · simp [fills, hl]
  · intro i h1 h2
    have ht := ht _ (List.getElem_mem h2)
    have hk := List.all_eq_true.1 hk _ (List.getElem_mem h2)
    have hk : l[i] ≠ 2 := by simpa using hk
    rw [List.getElem_map]
    unfold fills
    rw [List.getElem_zipWith]
    unfold fillB b2i
    by_cases e : l[i] = 1
    · rw [if_pos e, if_pos rfl, e]
    · rw [if_neg e, if_neg hk, if_neg (by decide)]
      omega
theorem out3_two {gs : List S52} {n2 : Int} {bs : List Bool} : out3 gs n2 (bs.map b2i) ≠ 2 := by
  rw [out3_b]
  unfold b2i
  split <;> decide
theorem SatUnknown : pentaglotlaw28_SatUnknown.Pure := by
  intro c fixed bits _ _ _ _ _
  apply Ev.rounds
  unfold pentaglotlaw28_SatUnknown.f
  refine Ev.bind awake ?_
  simp only [if_true]
  have done : ∀ x, x = true → Ev (fun k => pentaglotlaw28_SatUnknown.j0 k fixed bits x c.f0 c.f1 c.f2) true := fun x hx => by
    subst hx
    exact Ev.step (f := fun _ => some true) (fun k => by simp only [pentaglotlaw28_SatUnknown.j0, if_true]) (Ev.now _)
  obtain ⟨b, hb, hs⟩ := large c.f0 c.f1 c.f2
  refine Ev.bind hb ?_
  cases b with
  | true => simp only [if_true]; exact done _ rfl
  | false =>
    simp only [Bool.false_eq_true, if_false]
    have hs := hs rfl
    by_cases hl : (fixed.length : Int) > 40
    · simp only [if_pos hl]; exact done _ rfl
    simp only [if_neg hl]
    by_cases hne : bits.length = fixed.length
    case neg => exact done _ (by rw [bne_iff_ne]; omega)
    rw [show ((bits.length : Int) != (fixed.length : Int)) = false by rw [bne_eq_false_iff_eq]; omega]
    refine Ev.step (fun k => by simp only [pentaglotlaw28_SatUnknown.j0, Bool.false_eq_true, if_false]; rfl) (Ev.bind (three c.f0 c.f1 c.f2 hs fixed (by omega)) ?_)
    cases h : okP c.f0 c.f1 c.f2 fixed with
    | false => simp; exact Ev.now _
    | true =>
      obtain ⟨h1, h2, h3⟩ := okP_iff.1 h
      simp only [if_true, if_pos (by omega : 0 ≤ (bits.length : Int)), Int.toNat_natCast, if_pos (by omega : bits.length ≤ 281474976710656)]
      have fin : ∀ known : Bool, known = fixed.all (fun x => x != 2) → Ev (fun k => (sat_Eval.f k c.f0 c.f1 c.f2 (fills fixed bits)).bind fun bt383 => (if bt383.2 = 0 then (if known = true then (if out3 c.f1 c.f2 fixed = 2 then (some false) else (some (bt383.1 == (out3 c.f1 c.f2 fixed == 1)))) else (if out3 c.f1 c.f2 fixed = 2 then (some true) else (some (bt383.1 == (out3 c.f1 c.f2 fixed == 1))))) else (some false))) true := by
        intro known hk
        refine Ev.bind (eval c.f0 c.f1 c.f2 hs (fills fixed bits) (by simp [fills]; omega)) ?_
        have hok : okP c.f0 c.f1 c.f2 ((fills fixed bits).map b2i) = true := okP_iff.2 ⟨b2i_tri _, h2, by simp [fills, hne]; omega⟩
        rw [if_pos hok]
        simp only [if_true]
        by_cases hv : out3 c.f1 c.f2 fixed = 2
        · simp only [if_pos hv]
          cases known with
          | false => simp; exact Ev.now _
          | true =>
            have e := fill_known h1 hne hk.symm
            rw [← e] at hv
            exact absurd hv out3_two
        · simp only [if_neg hv, ite_self]
          rw [out3_stay (fill_ref h1 hne) c.f1 c.f2 hv, beq_self_eq_true]
          exact Ev.now _
      have loop : ∀ (t : List Int) (i : Nat), fixed.drop i = t → i ≤ fixed.length →
          Ev (fun k => pentaglotlaw28_SatUnknown.l0 k fixed bits (out3 c.f1 c.f2 fixed) ((fills fixed bits).take i ++ List.replicate (bits.length - i) false) ((fixed.take i).all (fun x => x != 2)) (i : Int) c.f0 c.f1 c.f2) true := by
        intro t
        induction t with
        | nil =>
          intro i hd hi
          have := rest_nil hi hd
          subst this
          rw [List.take_of_length_le (by simp [fills, hne]), hne, Nat.sub_self, List.replicate_zero, List.append_nil]
          refine Ev.step (fun k => by simp only [pentaglotlaw28_SatUnknown.l0]; rw [if_neg (by omega : ¬ (fixed.length : Int) < (bits.length : Int))]) (fin _ (by rw [List.take_length]))
        | cons x t ih =>
          intro i hd hi
          obtain ⟨q1, q2, q3⟩ := rest hd
          have ih := ih (i + 1) q3 (by omega)
          have hx : fixed[i] = x := by rw [← rd_at fixed i q1]; exact q2
          have hfl : (fills fixed bits).length = fixed.length := by simp [fills, hne]
          have hset : ∀ v, v = fillB x (rdOf false bits (i : Int)) → ((fills fixed bits).take i ++ List.replicate (bits.length - i) false).set (i : Int).toNat v = (fills fixed bits).take (i + 1) ++ List.replicate (bits.length - (i + 1)) false := by
            rintro v rfl
            have e := take_set (fills fixed bits) false bits.length i (by rw [hfl, hne]) (by omega)
            rw [Int.toNat_natCast, ← e]
            congr 1
            unfold fills
            rw [List.getElem_zipWith, hx, rdOf_at bits i (by omega)]
          have hall : (fixed.take (i + 1)).all (fun x => x != 2) = ((fixed.take i).all (fun x => x != 2) && (x != 2)) := by
            rw [List.take_succ_eq_append_getElem q1, hx, List.all_append]
            simp
          rw [hall] at ih
          have hw : wrap64 ((i : Int) + 1) = ((i + 1 : Nat) : Int) := w64 (by omega) (by omega)
          have step : ∀ (known : Bool), Ev (fun k => pentaglotlaw28_SatUnknown.l0 k fixed bits (out3 c.f1 c.f2 fixed) ((fills fixed bits).take (i + 1) ++ List.replicate (bits.length - (i + 1)) false) (known && (x != 2)) ((i + 1 : Nat) : Int) c.f0 c.f1 c.f2) true →
              Ev (fun k => pentaglotlaw28_SatUnknown.l0 k fixed bits (out3 c.f1 c.f2 fixed) ((fills fixed bits).take i ++ List.replicate (bits.length - i) false) known (i : Int) c.f0 c.f1 c.f2) true := by
            intro known ihk
            refine Ev.step (fun k => ?_) ihk
            simp only [pentaglotlaw28_SatUnknown.l0, q2, Option.bind_some]
            rw [if_pos (by omega), if_pos (by omega), if_pos (by omega), hw]
            have hlen : (i : Int) < ((((fills fixed bits).take i ++ List.replicate (bits.length - i) false).length : Nat) : Int) := by simp [hfl]; omega
            by_cases e1 : x = 1
            · rw [if_pos e1, if_pos hlen, hset true (by unfold fillB; rw [if_pos e1])]
              cases known <;> simp
            · rw [if_neg e1]
              by_cases e2 : x = 2
              · rw [if_pos e2, if_pos hlen, hset _ (by unfold fillB; rw [if_neg e1, if_pos e2])]
                cases known <;> simp
              · rw [if_neg e2, if_pos hlen, hset false (by unfold fillB; rw [if_neg e1, if_neg e2])]
                cases known <;> simp
          exact step _ ih
      have h0 := loop fixed 0 rfl (Nat.zero_le _)
      rw [List.take_zero, List.nil_append, List.take_zero, Nat.sub_zero] at h0
      exact h0
end Go.Proofs.Ytflknolnclnhfaa.Pure
