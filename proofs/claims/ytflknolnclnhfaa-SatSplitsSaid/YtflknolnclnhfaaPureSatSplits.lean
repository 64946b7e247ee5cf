/- Plain law: for all circuits with at most 60 gates and at most 8 inputs that are valid, the numbers of satisfying assignments of the circuit and of its negation add up to the number of assignments, and those of the circuit ascend. No condition beyond the law's own. -/
import Derived.Test.YtflknolnclnhfaaPx20
import Derived.Test.YtflknolnclnhfaaSvF
namespace Go.Proofs.Ytflknolnclnhfaa.Pure
set_option linter.unusedVariables false
set_option linter.unusedSimpArgs false
open Go.RowKit Go.Proofs.Ytflknolnclnhfaa.P Go.Proofs.Ytflknolnclnhfaa.Sv Go.Proofs.YtflknolnclnhfaaW.PrintWords Go.Proofs.YtflknolnclnhfaaW.PrintLast
/-- The circuit with a gate on top that negates. -/
def notOf (gs : List S52) (n2 : Int) : List S52 := gs ++ [⟨4, 0, [n2]⟩]
theorem okL_append (n0 : Int) (g : S52) : ∀ (gs : List S52) (i : Nat), okL n0 i gs = true → okG n0 (i + gs.length) g = true → okL n0 i (gs ++ [g]) = true
  | [], i, _, h => by
    rw [List.nil_append, okL, okL, Bool.and_true]
    simpa using h
  | x :: gs, i, h1, h2 => by
    rw [okL, Bool.and_eq_true] at h1
    rw [List.cons_append, okL, Bool.and_eq_true]
    refine ⟨h1.1, okL_append n0 g gs (i + 1) h1.2 ?_⟩
    rw [List.length_cons] at h2
    rwa [show i + 1 + gs.length = i + (gs.length + 1) by omega]
theorem okC_not {n0 : Int} {gs : List S52} {n2 : Int} (h : okC n0 gs n2 = true) (hl : gs.length ≤ 60) : okC n0 (notOf gs n2) (gs.length : Int) = true := by
  obtain ⟨h1, h2, h3, h4, h5, h6, h7⟩ := okC_iff.1 h
  refine okC_iff.2 ⟨h1, h2, by simp [notOf], by simp [notOf]; omega, by omega, by simp [notOf]; omega, okL_append n0 _ gs 0 h7 ?_⟩
  unfold okG opG inB
  simp [h5, h6]
theorem valsG_append (bits : List Int) (g : S52) : ∀ (gs : List S52) (vs : List Int), valsG bits (gs ++ [g]) vs = valsG bits gs vs ++ [vstep bits (valsG bits gs vs) g]
  | [], vs => rfl
  | x :: gs, vs => by rw [List.cons_append, valsG, valsG, valsG_append bits g gs]
theorem out3_not (gs : List S52) (n2 : Int) (bits : List Int) : out3 (notOf gs n2) (gs.length : Int) bits = negF (out3 gs n2 bits) := by
  unfold out3 notOf
  rw [valsG_append]
  have hl : (valsG bits gs []).length = gs.length := by rw [valsG_length]; simp
  unfold rd
  rw [Int.toNat_natCast, List.getD_eq_getElem?_getD, List.getElem?_append_right (by omega), hl, Nat.sub_self]
  rfl
theorem out3_two {gs : List S52} {n2 : Int} {m j : Nat} : out3 gs n2 (bitsG m j) = 0 ∨ out3 gs n2 (bitsG m j) = 1 := by
  rw [← bitsG_b, out3_b]
  cases rdOf false (bvalsG (toB (bitsG m j)) gs []) n2 <;> simp [b2i]
theorem satL_not (gs : List S52) (n2 : Int) (m : Nat) : ∀ (r n : Nat), (satL gs n2 m r n).length + (satL (notOf gs n2) (gs.length : Int) m r n).length = r
  | 0, _ => rfl
  | r + 1, n => by
    have ih := satL_not gs n2 m r (n + 1)
    rw [satL, satL, out3_not]
    rcases out3_two (gs := gs) (n2 := n2) (m := m) (j := n) with h | h
    · rw [h]
      simp only [negF]
      simp
      omega
    · rw [h]
      simp only [negF]
      simp
      omega
/-- Check of a valid circuit with at most 61 gates. -/
theorem check61 {n0 : Int} {gs : List S52} {n2 : Int} (hl : gs.length ≤ 61) (hk : ∀ g ∈ gs, g.f2.length ≤ 50) (h : okC n0 gs n2 = true) : Ev (fun k => sat_Check.f k n0 gs n2) true := by
  obtain ⟨h1, h2, h3, h4, h5, h6, h7⟩ := okC_iff.1 h
  unfold sat_Check.f
  simp only [if_neg (by omega : ¬ n0 < 0), if_neg (by omega : ¬ n0 > 1024), if_neg (by omega : ¬ (gs.length : Int) < 1), if_neg (by omega : ¬ (gs.length : Int) > 20000), if_neg (by omega : ¬ n2 < 0)]
  rw [decide_eq_false (by omega : ¬ n2 ≥ (gs.length : Int))]
  have hq := check_loop n0 gs n2 (by omega) gs 0 rfl (Nat.zero_le _) hk
  rw [h7] at hq
  refine Ev.step (fun k => ?_) hq
  simp only [sat_Check.j0, Bool.false_eq_true, if_false]
  rfl
theorem count61 {n0 : Int} {gs : List S52} {n2 : Int} (hl : gs.length ≤ 61) (hk : ∀ g ∈ gs, g.f2.length ≤ 50) (h : okC n0 gs n2 = true) (h8 : n0 ≤ 8) : Ev (fun k => sat_Count.f k n0 gs n2) (((satL gs n2 n0.toNat (2 ^ n0.toNat) 0).length : Int), 0) := by
  obtain ⟨h1, _⟩ := okC_iff.1 h
  have hlen : (satL gs n2 n0.toNat (2 ^ n0.toNat) 0).length ≤ 1000000 := by
    have h2 : 2 ^ n0.toNat ≤ 2 ^ 8 := Nat.pow_le_pow_right (by decide) (by omega)
    have := satL_length gs n2 n0.toNat (2 ^ n0.toNat) 0
    omega
  have hseq : Ev (fun k => sat_All.seq k n0 gs n2) (satL gs n2 n0.toNat (2 ^ n0.toNat) 0) := by
    unfold sat_All.seq
    refine Ev.bind (check61 hl hk h) ?_
    simp only [if_true, if_neg (by omega : ¬ n0 > 16), if_pos h1, if_pos (by omega : gs.length ≤ 1000000)]
    exact ⟨0, fun k _ => allG_val h (by omega) _ _ _ (by simp)⟩
  unfold sat_Count.f
  refine Ev.bind (check61 hl hk h) ?_
  simp only [if_true, if_neg (by omega : ¬ n0 > 16)]
  refine Ev.bind hseq ?_
  rw [if_pos hlen]
  exact Ev.now _
/-- The number whose bits these are. -/
def numN : List Bool → Nat → Nat
  | [], a => a
  | b :: t, a => numN t (2 * a + if b = true then 1 else 0)
theorem numB_N : ∀ (l : List Bool) (a : Nat), a < 2 ^ (40 - l.length) → l.length ≤ 30 → numB l (a : Int) = (numN l a : Int)
  | [], a, _, _ => rfl
  | b :: t, a, ha, hl => by
    rw [List.length_cons] at ha hl
    have e : 2 ^ (40 - t.length) = 2 * 2 ^ (40 - (t.length + 1)) := by
      rw [show 40 - t.length = (40 - (t.length + 1)) + 1 by omega, Nat.pow_succ]
      omega
    have hp : 2 ^ (40 - t.length) ≤ 2 ^ 40 := Nat.pow_le_pow_right (by decide) (by omega)
    obtain ⟨p, hpp⟩ : ∃ p, 2 ^ (40 - (t.length + 1)) = p := ⟨_, rfl⟩
    obtain ⟨q, hqq⟩ : ∃ q, 2 ^ (40 - t.length) = q := ⟨_, rfl⟩
    have h40 : (2 : Nat) ^ 40 = 1099511627776 := by decide
    rw [hpp] at ha e
    rw [hqq] at hp e
    rw [h40] at hp
    rw [numB, numN]
    have e1 : wrap64 (2 * (a : Int)) = 2 * (a : Int) := w64 (by omega) (by omega)
    have e2 : wrap64 (2 * (a : Int) + 1) = 2 * (a : Int) + 1 := w64 (by omega) (by omega)
    cases b with
    | true =>
      simp only [if_true, e1, e2]
      have h := numB_N t (2 * a + 1) (by rw [hqq]; omega) (by omega)
      rw [← h]
      congr 1
    | false =>
      simp only [Bool.false_eq_true, if_false, e1, Nat.add_zero]
      have h := numB_N t (2 * a) (by rw [hqq]; omega) (by omega)
      rw [← h]
      congr 1
theorem numN_snoc : ∀ (l : List Bool) (b : Bool) (a : Nat), numN (l ++ [b]) a = 2 * numN l a + if b = true then 1 else 0
  | [], _, _ => rfl
  | x :: l, b, a => by rw [List.cons_append, numN, numN_snoc l b, numN]
theorem bitsG_succ (m j : Nat) : bitsG (m + 1) j = bitsG m (j / 2) ++ [((j % 2 : Nat) : Int)] := by
  unfold bitsG
  rw [List.range_succ, List.map_append]
  congr 1
  · refine List.map_congr_left (fun i hi => ?_)
    have hi := List.mem_range.1 hi
    unfold bitG
    rw [show m + 1 - 1 - i = (m - 1 - i) + 1 by omega, Nat.pow_succ, Nat.mul_comm, ← Nat.div_div_eq_div_mul]
  · unfold bitG
    rw [List.map_singleton, show m + 1 - 1 - m = 0 by omega, Nat.pow_zero, Nat.div_one]
theorem numN_bits : ∀ (m j : Nat), j < 2 ^ m → numN (toB (bitsG m j)) 0 = j
  | 0, j, h => by
    have : j = 0 := by simpa using h
    rw [this]
    rfl
  | m + 1, j, h => by
    have hm : j / 2 < 2 ^ m := by
      rw [Nat.pow_succ] at h
      omega
    rw [bitsG_succ]
    unfold toB
    rw [List.map_append, List.map_singleton, numN_snoc]
    have ih := numN_bits m (j / 2) hm
    unfold toB at ih
    rw [ih]
    rcases Nat.mod_two_eq_zero_or_one j with e | e
    · rw [e]
      simp
      omega
    · rw [e]
      simp
      omega
theorem numB_bits {m j : Nat} (hm : m ≤ 8) (h : j < 2 ^ m) : numB (toB (bitsG m j)) 0 = (j : Int) := by
  have hl : (toB (bitsG m j)).length = m := by rw [toB_length, bitsG_length]
  have := numB_N (toB (bitsG m j)) 0 (Nat.pow_pos (by decide)) (by omega)
  rw [numN_bits m j h] at this
  exact this
theorem eval_sat {n0 : Int} {gs : List S52} {n2 : Int} (hs : Sm gs) (h : okC n0 gs n2 = true) {m j : Nat} (hm : (m : Int) = n0) (hm8 : m ≤ 8) (ho : out3 gs n2 (bitsG m j) = 1) : Ev (fun k => sat_Eval.f k n0 gs n2 (toB (bitsG m j))) (true, 0) := by
  have he := eval n0 gs n2 hs (toB (bitsG m j)) (by rw [toB_length, bitsG_length]; omega)
  rw [bitsG_b, if_pos (okP_iff.2 ⟨bitsG_tri m j, h, by rw [bitsG_length]; exact hm⟩), ho] at he
  exact he
theorem allSp_sat {n0 : Int} {gs : List S52} {n2 : Int} (hs : Sm gs) (h : okC n0 gs n2 = true) {m : Nat} (hm : (m : Int) = n0) (hm8 : m ≤ 8) : ∀ (r n : Nat) (last : Int), n + r ≤ 2 ^ m → last < (n : Int) → ∃ K, ∀ k, K ≤ k → allSp k n0 gs n2 (satL gs n2 m r n) last = true
  | 0, n, last, _, _ => ⟨0, fun k _ => rfl⟩
  | r + 1, n, last, h1, h2 => by
    rw [satL]
    by_cases ho : out3 gs n2 (bitsG m n) = 1
    · rw [if_pos ho]
      have hb := numB_bits (m := m) (j := n) hm8 (by omega)
      obtain ⟨K1, hK1⟩ := eval_sat hs h hm hm8 ho
      obtain ⟨K2, hK2⟩ := allSp_sat hs h hm hm8 r (n + 1) (n : Int) (by omega) (by omega)
      refine ⟨max K1 K2, fun k hk => ?_⟩
      have e1 : sat_Eval.f k n0 gs n2 (toB (bitsG m n)) = some (true, 0) := hK1 k (by omega)
      rw [allSp, e1, hb, hK2 k (by omega)]
      simp [h2]
    · rw [if_neg ho]
      exact allSp_sat hs h hm hm8 r (n + 1) last (by omega) (by omega)
theorem count_not {n0 : Int} {gs : List S52} {n2 : Int} (h : okC n0 gs n2 = true) (hl : gs.length ≤ 60) (hk : ∀ g ∈ gs, g.f2.length ≤ 50) (h8 : n0 ≤ 8) : Ev (fun k => sat_Count.f k n0 (notOf gs n2) (gs.length : Int)) (((satL (notOf gs n2) (gs.length : Int) n0.toNat (2 ^ n0.toNat) 0).length : Int), 0) := by
  refine count61 ?_ ?_ (okC_not h hl) h8
  · unfold notOf
    rw [List.length_append]
    simp only [List.length_cons, List.length_nil]
    omega
  · intro g hg
    unfold notOf at hg
    rcases List.mem_append.1 hg with hg | hg
    · exact hk g hg
    · rw [List.mem_singleton.1 hg]
      exact (by decide : (1 : Nat) ≤ 50)
theorem SatSplits : pentaglotlaw28_SatSplits.Pure := by
  intro c _
  apply Ev.rounds
  unfold pentaglotlaw28_SatSplits.f
  refine Ev.when awake ?_
  obtain ⟨b, hb, hs⟩ := large c.f0 c.f1 c.f2
  refine Ev.bind hb ?_
  cases b with
  | true => simp only [if_true]; exact Ev.now _
  | false =>
    have hs := hs rfl
    simp only [Bool.false_eq_true, if_false]
    by_cases h8 : 8 < c.f0
    · simp only [if_pos h8]; exact Ev.now _
    simp only [if_neg h8]
    refine Ev.bind (check c.f0 c.f1 c.f2 hs) ?_
    cases h : okC c.f0 c.f1 c.f2 with
    | false => simp only [if_true]; exact Ev.now _
    | true =>
      obtain ⟨h1, h2, h3, h4, h5, h6, h7⟩ := okC_iff.1 h
      have hl := hs.1
      simp only [Bool.true_eq_false, if_false, if_neg (by omega : ¬ 20000 < c.f1.length)]
      obtain ⟨m, hm⟩ := Int.eq_ofNat_of_zero_le h1
      have hm8 : m ≤ 8 := by omega
      refine Ev.bind (count61 (by omega) hs.2 h (by omega)) ?_
      have hcnt : Ev (fun k => sat_Count.f k c.f0 (c.f1 ++ [⟨4, 0, [c.f2]⟩]) (c.f1.length : Int)) (((satL (c.f1 ++ [⟨4, 0, [c.f2]⟩]) (c.f1.length : Int) c.f0.toNat (2 ^ c.f0.toNat) 0).length : Int), 0) := count_not h hl hs.2 (by omega)
      refine Ev.bind hcnt ?_
      have hsum := satL_not c.f1 c.f2 c.f0.toNat (2 ^ c.f0.toNat) 0
      unfold notOf at hsum
      have hpow : (2 : Nat) ^ c.f0.toNat ≤ 2 ^ 8 := Nat.pow_le_pow_right (by decide) (by omega)
      have hq : wrap64 (((satL c.f1 c.f2 c.f0.toNat (2 ^ c.f0.toNat) 0).length : Int) + ((satL (c.f1 ++ [⟨4, 0, [c.f2]⟩]) (c.f1.length : Int) c.f0.toNat (2 ^ c.f0.toNat) 0).length : Int)) = shl .i64 1 c.f0 := by
        have hi : ((2 : Int) ^ c.f0.toNat) = ((2 ^ c.f0.toNat : Nat) : Int) := by simp
        have hb64 : IntKind.i64.bits = 64 := rfl
        unfold shl
        rw [hb64, Nat.min_eq_left (by omega), Int.one_mul, i64_w, hi]
        rw [← Int.natCast_add, hsum]
      simp only [hq, and_self, true_and, if_pos h1]
      refine Ev.bind (seq_val hs) ?_
      have hA : satA c.f0 c.f1 c.f2 = satL c.f1 c.f2 c.f0.toNat (2 ^ c.f0.toNat) 0 := by
        unfold satA
        rw [if_pos h, if_neg (by omega)]
      rw [hA]
      obtain ⟨K, hK⟩ := allSp_sat hs h (m := c.f0.toNat) (by omega) (by omega) (2 ^ c.f0.toNat) 0 (-1) (by omega) (by omega)
      refine ⟨K, fun k hk => ?_⟩
      have hlen := satL_length c.f1 c.f2 c.f0.toNat (2 ^ c.f0.toNat) 0
      exact if_pos ⟨hK k hk, rfl, by omega⟩
end Go.Proofs.Ytflknolnclnhfaa.Pure
