/- Plain facts on the assignments that satisfy a circuit: the program's and the reference's lists of them. -/
import Derived.Test.YtflknolnclnhfaaPx0
import Derived.Test.YtflknolnclnhfaaPx4
import Derived.Test.YtflknolnclnhfaaPx11
import Derived.Test.YtflknolnclnhfaaSvE
namespace Go.Proofs.Ytflknolnclnhfaa.Sv
set_option linter.unusedVariables false
set_option linter.unusedSimpArgs false
open Go.RowKit Go.Proofs.Ytflknolnclnhfaa.P Go.Proofs.YtflknolnclnhfaaW.PrintWords Go.Proofs.YtflknolnclnhfaaW.PrintLast

theorem Ev.when {α β : Type} {g : Nat → Option α} {f x : Nat → Option β} {a : α} {r : β} [DecidableEq α] (h : Ev g a) (k : Ev f r) : Ev (fun n => if g n = some a then f n else x n) r := by
  obtain ⟨K, h⟩ := h
  obtain ⟨L, k⟩ := k
  refine ⟨K + L, fun n hn => ?_⟩
  dsimp only
  rw [if_pos (h n (by omega))]
  exact k n (by omega)
def toB (l : List Int) : List Bool := l.map (fun b => b == 1)
theorem bitG_two (m n i : Nat) : bitG m n i = 0 ∨ bitG m n i = 1 := by unfold bitG; omega
theorem bitsG_b (m n : Nat) : (toB (bitsG m n)).map b2i = bitsG m n := by
  unfold toB
  rw [List.map_map]
  refine (List.map_congr_left (g := id) (fun x hx => ?_)).trans (List.map_id _)
  unfold bitsG at hx
  obtain ⟨i, _, rfl⟩ := List.mem_map.1 hx
  rcases bitG_two m n i with h | h <;> rw [h] <;> rfl
theorem bitsG_tri (m n : Nat) : Tri (bitsG m n) := by rw [← bitsG_b]; exact b2i_tri _
theorem toB_length (l : List Int) : (toB l).length = l.length := by simp [toB]
/-- The satisfying assignments among r numbers from n on. -/
def satL (gs : List S52) (n2 : Int) (m : Nat) : Nat → Nat → List (List Bool)
  | 0, _ => []
  | r + 1, n => if out3 gs n2 (bitsG m n) = 1 then toB (bitsG m n) :: satL gs n2 m r (n + 1) else satL gs n2 m r (n + 1)
theorem satL_length (gs : List S52) (n2 : Int) (m : Nat) : ∀ (r n : Nat), (satL gs n2 m r n).length ≤ r
  | 0, _ => Nat.le_refl _
  | r + 1, n => by
    have ih := satL_length gs n2 m r (n + 1)
    rw [satL]
    split
    · simp; omega
    · omega
theorem satL_mem (gs : List S52) (n2 : Int) (m : Nat) : ∀ (r n : Nat) (x : List Bool), x ∈ satL gs n2 m r n → ∃ j, n ≤ j ∧ j < n + r ∧ x = toB (bitsG m j) ∧ out3 gs n2 (bitsG m j) = 1
  | 0, _, _, h => by cases h
  | r + 1, n, x, h => by
    rw [satL] at h
    by_cases ho : out3 gs n2 (bitsG m n) = 1
    · rw [if_pos ho] at h
      rcases List.mem_cons.1 h with rfl | h
      · exact ⟨n, Nat.le_refl _, by omega, rfl, ho⟩
      · obtain ⟨j, h1, h2, h3⟩ := satL_mem gs n2 m r (n + 1) x h
        exact ⟨j, by omega, by omega, h3⟩
    · rw [if_neg ho] at h
      obtain ⟨j, h1, h2, h3⟩ := satL_mem gs n2 m r (n + 1) x h
      exact ⟨j, by omega, by omega, h3⟩
theorem allG_val {n0 : Int} {gs : List S52} {n2 : Int} (h : okC n0 gs n2 = true) {m : Nat} (hm : (m : Int) = n0) : ∀ (r n : Nat) (vs : List Int), vs.length = gs.length → allG gs n2 m r n vs = some (satL gs n2 m r n)
  | 0, _, _, _ => rfl
  | r + 1, n, vs, hv => by
    rw [allG, outF_val h (by rw [bitsG_length]; exact hm) (bitsG_tri m n) vs hv, Option.bind_some, allG_val h hm r (n + 1) _ (by rw [valsG_length]; simp), Option.bind_some, satL]
    rfl
def satA (n0 : Int) (gs : List S52) (n2 : Int) : List (List Bool) := if okC n0 gs n2 = true then (if n0 > 16 then [] else satL gs n2 n0.toNat (2 ^ n0.toNat) 0) else []
theorem seq_val {n0 : Int} {gs : List S52} {n2 : Int} (hs : Sm gs) : Ev (fun k => sat_All.seq k n0 gs n2) (satA n0 gs n2) := by
  unfold sat_All.seq satA
  refine Ev.bind (check n0 gs n2 hs) ?_
  have hl := hs.1
  cases h : okC n0 gs n2 with
  | false => simp only [Bool.false_eq_true, if_false]; exact Ev.now _
  | true =>
    simp only [if_true]
    obtain ⟨h0, _⟩ := okC_iff.1 h
    by_cases h16 : n0 > 16
    · simp only [if_pos h16]; exact Ev.now _
    · simp only [if_neg h16]
      rw [if_pos h0, if_pos (by omega)]
      refine ⟨0, fun k _ => ?_⟩
      exact allG_val h (by omega) _ _ _ (by simp)
theorem satA_length {n0 : Int} {gs : List S52} {n2 : Int} : (satA n0 gs n2).length ≤ 65536 := by
  unfold satA
  split
  · split
    · simp
    · have := satL_length gs n2 n0.toNat (2 ^ n0.toNat) 0
      have h2 : 2 ^ n0.toNat ≤ 2 ^ 16 := Nat.pow_le_pow_right (by decide) (by omega)
      omega
  · simp
theorem satA_mem {n0 : Int} {gs : List S52} {n2 : Int} {x : List Bool} (hx : x ∈ satA n0 gs n2) : x.length ≤ 16 := by
  unfold satA at hx
  split at hx
  · split at hx
    · cases hx
    · obtain ⟨j, _, _, rfl, _⟩ := satL_mem _ _ _ _ _ _ hx
      rw [toB_length, bitsG_length]
      omega
  · cases hx
theorem count {n0 : Int} {gs : List S52} {n2 : Int} (hs : Sm gs) : Ev (fun k => sat_Count.f k n0 gs n2) (if okC n0 gs n2 = true then (if n0 > 16 then (0, 2) else (((satA n0 gs n2).length : Int), 0)) else (0, 1)) := by
  unfold sat_Count.f
  refine Ev.bind (check n0 gs n2 hs) ?_
  cases h : okC n0 gs n2 with
  | false => simp only [Bool.false_eq_true, if_false]; exact Ev.now _
  | true =>
    simp only [if_true]
    by_cases h16 : n0 > 16
    · simp only [if_pos h16]; exact Ev.now _
    · simp only [if_neg h16]
      refine Ev.bind (seq_val hs) ?_
      have := satA_length (n0 := n0) (gs := gs) (n2 := n2)
      rw [if_pos (by omega)]
      exact Ev.now _
theorem same_all : ∀ (l : List (List Bool)), (∀ x ∈ l, x.length ≤ 1000000) → ∃ K, ∀ k, K ≤ k → l.all (fun x => decide (pentaglotlaw28_same.f k x x = some true)) = true
  | [], _ => ⟨0, fun _ _ => rfl⟩
  | x :: l, h => by
    obtain ⟨K, hK⟩ := same_all l (fun y hy => h y (List.mem_cons_of_mem _ hy))
    obtain ⟨L, hL⟩ := rsame x x (h x List.mem_cons_self)
    refine ⟨K + L, fun k hk => ?_⟩
    have h1 := hL k (by omega)
    rw [beq_self_eq_true] at h1
    rw [List.all_cons, hK k (by omega), decide_eq_true h1]
    rfl
/-! the reference's -/
theorem shr_val (n s : Nat) (hn : n < 9223372036854775808) : shr .i64 (n : Int) (s : Int) = ((n / 2 ^ s : Nat) : Int) := by
  unfold shr
  have hb : IntKind.i64.bits = 64 := rfl
  rw [Int.toNat_natCast, hb]
  by_cases h : s ≤ 64
  · rw [Nat.min_eq_left h]
    simp
  · rw [Nat.min_eq_right (by omega)]
    have h1 : n / 2 ^ s = 0 := Nat.div_eq_of_lt (Nat.lt_of_lt_of_le hn (Nat.le_trans (by decide : 9223372036854775808 ≤ 2 ^ 63) (Nat.pow_le_pow_right (by decide) (by omega : 63 ≤ s))))
    have h2 : n / 2 ^ 64 = 0 := Nat.div_eq_of_lt (Nat.lt_of_lt_of_le hn (by decide))
    rw [h1]
    have e : ((n : Int) / 2 ^ 64) = ((n / 2 ^ 64 : Nat) : Int) := by simp
    rw [e, h2]
theorem rbits_step (m n i : Nat) (hi : i < m) (hn : n < 65536) (hm : m ≤ 16) : (Int.tmod (shr .i64 (n : Int) (wrap64 ((wrap64 ((m : Int) - 1)) - (i : Int)))) 2 == 1) = (bitG m n i == 1) := by
  have e1 : wrap64 ((m : Int) - 1) = (m : Int) - 1 := w64 (by omega) (by omega)
  rw [e1, w64 (by omega) (by omega), show ((m : Int) - 1 - (i : Int)) = ((m - 1 - i : Nat) : Int) by omega, shr_val _ _ (by omega)]
  unfold bitG
  rw [Int.tmod_eq_emod_of_nonneg (Int.natCast_nonneg _)]
  rfl
theorem toB_snoc (m n i : Nat) (hi : i < m) : (toB (bitsG m n)).take i ++ [bitG m n i == 1] = (toB (bitsG m n)).take (i + 1) := by
  rw [List.take_succ_eq_append_getElem (by rw [toB_length, bitsG_length]; exact hi)]
  congr 1
  unfold toB
  rw [List.getElem_map, bitsG_get m n i hi]
set_option maxHeartbeats 1000000 in
theorem rall_val {n0 : Int} {gs : List S52} {n2 : Int} (hs : Sm gs) (h : okC n0 gs n2 = true) (h16 : n0 ≤ 16) : Ev (fun k => pentaglotref28_All.f k n0 gs n2) (satA n0 gs n2) := by
  obtain ⟨h0, _⟩ := okC_iff.1 h
  obtain ⟨m, rfl⟩ := Int.eq_ofNat_of_zero_le h0
  have hm : m ≤ 16 := by omega
  have hM : (2 : Nat) ^ m ≤ 2 ^ 16 := Nat.pow_le_pow_right (by decide) hm
  have e0 : satA (m : Int) gs n2 = satL gs n2 m (2 ^ m) 0 := by unfold satA; rw [if_pos h, if_neg (by omega), Int.toNat_natCast]
  rw [e0]
  clear e0
  obtain ⟨M, hMe⟩ : ∃ M : Nat, 2 ^ m = M := ⟨_, rfl⟩
  have hsh : shl .i64 1 (m : Int) = (M : Int) := by
    unfold shl
    have hb : IntKind.i64.bits = 64 := rfl
    rw [Int.toNat_natCast, hb, Nat.min_eq_left (by omega), Int.one_mul]
    have e : ((2 : Int) ^ m) = (M : Int) := by rw [← hMe]; simp
    rw [hMe] at hM
    rw [e, i64_w, w64 (by omega) (by omega)]
  rw [hMe] at hM ⊢
  clear hMe
  have hM6 : M ≤ 65536 := hM
  clear hM
  have loop : ∀ (r n : Nat) (acc : List (List Bool)), n + r = M → acc.length ≤ n → Ev (fun k => pentaglotref28_All.l0 k acc (n : Int) (m : Int) gs n2) (acc ++ satL gs n2 m r n) := by
    intro r
    induction r with
    | zero =>
      intro n acc hn ha
      have hac : acc.length < 5864062014805 := by clear hsh; omega
      refine Ev.step (f := fun _ => some acc) (fun k => ?_) (by rw [satL, List.append_nil]; exact Ev.now _)
      simp only [pentaglotref28_All.l0]
      rw [if_pos (by omega), hsh, if_neg (by omega)]
    | succ r ih =>
      intro n acc hn ha
      have hac : acc.length < 5864062014805 := by clear hsh ih; omega
      have hw : wrap64 ((n : Int) + 1) = ((n + 1 : Nat) : Int) := by clear hsh ih; exact w64 (by omega) (by omega)
      have inner : ∀ (q i : Nat), i + q = m → Ev (fun k => pentaglotref28_All.l1 k acc (n : Int) ((toB (bitsG m n)).take i) (i : Int) (m : Int) gs n2) (acc ++ satL gs n2 m (r + 1) n) := by
        intro q
        induction q with
        | zero =>
          intro i hi
          obtain rfl : i = m := by omega
          rw [List.take_of_length_le (by rw [toB_length, bitsG_length]; exact Nat.le_refl _)]
          have hb : ((toB (bitsG i n)).length : Int) = (i : Int) := by rw [toB_length, bitsG_length]
          refine Ev.step (fun k => by simp only [pentaglotref28_All.l1]; rw [if_neg (by omega : ¬ (i : Int) < (i : Int))]) (Ev.bind (reval hs h hb) ?_)
          have ho : out3 gs n2 (bitsG i n) = b2i (rdOf false (bvalsG (toB (bitsG i n)) gs []) n2) := by rw [← out3_b, bitsG_b]
          rw [satL]
          cases hv : rdOf false (bvalsG (toB (bitsG i n)) gs []) n2 with
          | true =>
            rw [hv] at ho
            rw [if_pos (show out3 gs n2 (bitsG i n) = 1 from ho)]
            simp only [if_true]
            rw [hw]
            have := ih (n + 1) (acc ++ [toB (bitsG i n)]) (by clear ho hv; omega) (by rw [List.length_append, List.length_singleton]; clear ho hv; omega)
            rw [List.append_assoc, List.singleton_append] at this
            simp only [if_pos hac]
            exact this
          | false =>
            rw [hv] at ho
            rw [if_neg (by rw [ho]; decide)]
            simp only [Bool.false_eq_true, if_false]
            rw [hw]
            exact ih (n + 1) acc (by clear ho hv; omega) (by clear ho hv; omega)
        | succ q ihq =>
          intro i hi
          have h2 := ihq (i + 1) (by omega)
          rw [← toB_snoc m n i (by omega)] at h2
          refine Ev.step (fun k => ?_) h2
          simp only [pentaglotref28_All.l1]
          have e1 : wrap64 ((m : Int) - 1) = (m : Int) - 1 := w64 (by omega) (by omega)
          rw [if_pos (by omega), if_pos (by rw [e1, w64 (by omega) (by omega)]; omega), if_pos (by rw [List.length_take]; omega), rbits_step m n i (by omega) (by omega) hm, w64 (x := (i : Int) + 1) (by omega) (by omega)]
          rfl
      refine Ev.step (fun k => ?_) (inner m 0 (by omega))
      simp only [pentaglotref28_All.l0]
      rw [if_pos (by omega), hsh, if_pos (by omega)]
      rfl
  exact loop M 0 [] (by omega) (Nat.le_refl _)
end Go.Proofs.Ytflknolnclnhfaa.Sv
