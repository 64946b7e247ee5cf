/- Words of the session's own: iterators that keep cells of their own, and 'for .. := range g'. A template, its names filled in by wip/tools/xprint.py. -/
import Derived.RangeFuncNested
import Derived.RangeFuncBound
import Derived.RangeFuncCalls
import Derived.RangeFuncLeaves
import Derived.TacticsInMore
import Derived.OwnWalkIn
import Derived.Stop.RegionWithIn
import Derived.Deep.RegionLawGrows
import Derived.ArgAppend
import Derived.Test.YtfampmajmbediaaWWords
namespace Go.Proofs.YtfampmajmbediaaW.PrintWords
open Go.RowKit
set_option linter.unusedVariables false
/-- What a step leaves as it was: the blocks of S. -/
structure KeepS (S : Nat → Prop) (w w' : World) : Prop where
  os : w'.os = w.os
  tape : w'.tape = w.tape
  output : w'.output = w.output
  size : w.heap.size ≤ w'.heap.size
  block : ∀ i, i < w.heap.size → S i → w'.heap[i]? = w.heap[i]?
namespace KeepS
variable {S T : Nat → Prop} {w w1 w2 : World}
theorem refl (S : Nat → Prop) (w : World) : KeepS S w w := ⟨rfl, rfl, rfl, Nat.le_refl _, fun _ _ _ => rfl⟩
theorem trans (h : KeepS S w w1) (k : KeepS S w1 w2) : KeepS S w w2 := ⟨k.os.trans h.os, k.tape.trans h.tape, k.output.trans h.output, Nat.le_trans h.size k.size, fun i hi hs => (k.block i (Nat.lt_of_lt_of_le hi h.size) hs).trans (h.block i hi hs)⟩
theorem mono (h : KeepS S w w1) (hs : ∀ i, i < w.heap.size → T i → S i) : KeepS T w w1 := ⟨h.os, h.tape, h.output, h.size, fun i hi ht => h.block i hi (hs i hi ht)⟩
theorem of_below {B : Nat} (h : Below B w w1) (hs : ∀ i, i < w.heap.size → S i → i < B) : KeepS S w w1 := ⟨h.os, h.tape, h.output, h.size, fun i hi ht => h.block i (hs i hi ht)⟩
theorem below {B : Nat} (h : KeepS S w w1) (hb : B ≤ w.heap.size) (hs : ∀ i, i < B → S i) : Below B w w1 := ⟨h.os, h.tape, h.output, h.size, fun i hi => h.block i (Nat.lt_of_lt_of_le hi hb) (hs i hi)⟩
theorem putObj (w : World) (l : Nat) (o : Obj) (hl : ¬ S l) : KeepS S w (w.putObj l o) := ⟨rfl, rfl, rfl, Nat.le_of_eq World.putObj_size.symm, fun i _ hs => World.putObj_heap_other (fun e => hl (e ▸ hs))⟩
theorem set_ (w : World) (p : Addr) (v : Value) (hp : ¬ S p.block) : KeepS S w (w.setCell p v) := ⟨by simp [World.setCell], by simp [World.setCell], by simp [World.setCell], by simp [World.setCell], fun i _ hs => Below.heap_setCell w p v i (fun e => hp (e ▸ hs))⟩
theorem blk {g : Nat} {o : Obj} (h : KeepS S w w1) (hb : w.heap[g]? = some o) (hs : S g) : w1.heap[g]? = some o := (h.block g (Array.getElem?_eq_some_iff.1 hb).1 hs).trans hb
end KeepS
/-- The contract of an iterator's value. The caller's own blocks Y are left as they are, and all that was there when it was called; a round writes its own blocks, those that it is handed over, and new ones alone. -/
def IterC {α : Type} (P : Program) (gf : Nat) (lb : Array Value) (Rel : α → Array Value → (Nat → Prop) → World → Prop) (Z : Nat → Prop) (w : World) (xs : List α) : Prop :=
  ∀ (l : Nat) (J Jx : (Nat → Prop) → List α → World → Prop) (Y : Nat → Prop) (W : World), Below w.heap.size w W → (∀ k, Y k → k < W.heap.size ∧ ¬ Z k) →
    (∀ Y pre A B, J Y pre A → KeepS (fun i => i < W.heap.size ∨ Y i) A B → J Y pre B) →
    (∀ Y pre A B, Jx Y pre A → KeepS (fun i => i < W.heap.size ∨ Y i) A B → Jx Y pre B) →
    (∀ Y pre x vs S A, pre ++ [x] <+: xs → (∀ k, Y k → k < A.heap.size ∧ ¬ Z k) → W.heap.size ≤ A.heap.size → J Y pre A → Rel x vs S A → (∀ k, S k → W.heap.size ≤ k ∧ k < A.heap.size ∧ ¬ Y k ∧ ¬ Z k) →
      YieldAt Fence.wide 0 P l vs A fun e B => ∃ Y' : Nat → Prop, (∀ k, Y' k → Y k ∨ S k ∨ A.heap.size ≤ k) ∧ (∀ k, Y' k → k < B.heap.size) ∧ KeepS (fun i => ¬ Y i ∧ ¬ S i) A B ∧
        ((e = .returned (.bool true) ∧ J Y' (pre ++ [x]) B) ∨ (e = .returned (.bool false) ∧ Jx Y' (pre ++ [x]) B))) →
    J Y [] W →
    Calls P gf (#[.func (.yield l) #[] #[]] ++ lb) W fun e W' => (∃ v, e = .returned v) ∧ W.heap.size ≤ W'.heap.size ∧ ∃ Y', (J Y' xs W' ∨ ∃ pre, pre <+: xs ∧ Jx Y' pre W')
theorem IterC.later {α : Type} {P : Program} {gf : Nat} {lb : Array Value} {Rel : α → Array Value → (Nat → Prop) → World → Prop} {Z : Nat → Prop} {w w' : World} {xs : List α} (h : IterC P gf lb Rel Z w xs) (hb : Below w.heap.size w w') : IterC P gf lb Rel Z w' xs :=
  fun l J Jx Y W hW => h l J Jx Y W (hb.trans (hW.mono hb.size))
/-- What a round must leave behind. -/
def roundPostI {α : Type} (m : Nat) (Y S : Nat → Prop) (I : (Nat → Prop) → List α → World → Prop) (Ix : Code → (Nat → Prop) → List α → World → Prop) (pre : List α) (A : World) (e : Exit) (_ : Act) (B : World) : Prop :=
  ∃ Y' : Nat → Prop, (∀ k, Y' k → Y k ∨ S k ∨ m ≤ k) ∧ (∀ k, Y' k → k < B.heap.size) ∧ KeepS (fun i => i < m ∧ ¬ Y i ∧ ¬ S i) A B ∧
    match e with
    | .normal => I Y' pre B
    | .ret => Ix .ret Y' pre B
    | .exit id => Ix (.exit id) Y' pre B
    | .goto t => Ix (.goto t) Y' pre B
    | _ => False
theorem wp_rangeFunc_iter {α : Type} {P : Program} {g : Operand} {ps : Array Tmp} {assign body : Code} {Q : Exit → Act → World → Prop} {a : Act} {w : World} {gf : Nat} {lb : Array Value}
    (hg : a.eval g = .func (.func gf) #[] lb) (eg : ∀ args w, (callFunc gf args).run P w = .ok (.enter gf args) w)
    {Rel : α → Array Value → (Nat → Prop) → World → Prop} {Z : Nat → Prop} {w0 : World} {xs : List α} (hseq : IterC P gf lb Rel Z w0 xs) (hb0 : Below w0.heap.size w0 w)
    (hps : ∀ x vs S A, Rel x vs S A → vs.size = ps.size)
    (hRel : ∀ x vs S A l r o, Rel x vs S A → A.heap[l]? = some (.loop r) → Rel x vs S (World.putObj A l o))
    (I : (Nat → Prop) → List α → World → Prop) (Ix : Code → (Nat → Prop) → List α → World → Prop)
    (hI : ∀ Y pre A B, I Y pre A → KeepS (fun i => i < w.heap.size ∨ Y i) A B → I Y pre B) (hIx : ∀ c Y pre A B, Ix c Y pre A → KeepS (fun i => i < w.heap.size ∨ Y i) A B → Ix c Y pre B)
    (Y0 : Nat → Prop) (hY0 : ∀ k, Y0 k → k < w.heap.size ∧ ¬ Z k) (hZ : ∀ k, w.heap.size ≤ k → ¬ Z k) (h0 : I Y0 [] w)
    (Ax : α → Array Value → Act → World → Prop) (hAx : ∀ x vs a' A l r o, Ax x vs a' A → A.heap[l]? = some (.loop r) → Ax x vs a' (World.putObj A l o))
    (hassign : ∀ (l : Nat) (x : α) (vs : Array Value) (S : Nat → Prop) (A : World) (K : Act → World → Prop), Rel x vs S A → (∀ a' A', Below A.heap.size A A' → Rel x vs S A' → Ax x vs a' A' → K a' A') →
      assign.wpIn (Fence.wide.inRound l) 0 P (Exit.then K (fun _ _ _ => False)) { tmps := (ps.zip vs).foldl (fun t (p, v) => t.setIfInBounds p v) a.tmps, defers := [] } A)
    (hbody : ∀ (l m : Nat) (Y : Nat → Prop) (pre : List α) (x : α) (vs : Array Value) (S : Nat → Prop) (a' : Act) (A : World), pre ++ [x] <+: xs → I Y pre A → Rel x vs S A → Ax x vs a' A →
      w.heap.size ≤ l → l < m → m ≤ A.heap.size → (∀ k, Y k → k < m ∧ ¬ Z k ∧ k ≠ l) → (∀ k, S k → w.heap.size ≤ k ∧ k < m ∧ ¬ Y k ∧ ¬ Z k ∧ k ≠ l) →
      body.wpIn (Fence.wide.inRound l) 0 P (roundPostI m Y S I Ix (pre ++ [x]) A) a' A)
    (hdone : ∀ (D : Nat) (Y : Nat → Prop) (W : World), w.heap.size ≤ D → I Y xs W → W.heap[D]? = some (.deferred (some [])) → Q .normal { a with defers := { target := .collected D, args := #[] } :: a.defers } W)
    (hstop : ∀ (D : Nat) (c : Code) (Y : Nat → Prop) (pre : List α) (W : World), w.heap.size ≤ D → pre <+: xs → Ix c Y pre W → W.heap[D]? = some (.deferred (some [])) → c.wp P Q { a with defers := { target := .collected D, args := #[] } :: a.defers } W) :
    (Code.rangeFunc g ps assign body).wp P Q a w := by
  refine (wpIn_wide (n := 1)).1 ?_
  refine wpIn_rangeFunc ?_
  intro fn hfn
  obtain ⟨rec, hrec⟩ : ∃ rec : LoopState → Option Code → Loop, rec = fun st pe => { state := st, pending := pe, fn, tmps := a.tmps, params := ps, assign, body, defers := w.heap.size } := ⟨_, rfl⟩
  obtain ⟨W1, hW1⟩ : ∃ W1, (w.alloc (.deferred (some []))).alloc (.loop (rec .ready none)) = W1 := ⟨_, rfl⟩
  have hsz : W1.heap.size = w.heap.size + 2 := by rw [← hW1]; simp
  have hL1 : W1.heap[w.heap.size + 1]? = some (.loop (rec .ready none)) := by
    rw [← hW1]; have := World.alloc_heap_new (w.alloc (.deferred (some []))) (.loop (rec .ready none)); rwa [World.size_alloc] at this
  have hK1 : W1.heap[w.heap.size]? = some (.deferred (some [])) := by
    rw [← hW1]; exact (Below.heap_alloc _ _ _ (by simp)).trans (World.alloc_heap_new w _)
  have hbW : Below w.heap.size w W1 := by rw [← hW1]; exact ((Below.refl _ w).alloc (Nat.le_refl _) _).alloc (by simp) _
  have hb1 : Below w0.heap.size w0 W1 := hb0.trans (hbW.mono hb0.size)
  refine ⟨w.heap.size + 1, [{ target := .collected w.heap.size, args := #[] }], W1, { target := .fn (.func gf) lb, args := #[.func (.yield (w.heap.size + 1)) #[] #[]] }, W1, gf,
    #[.func (.yield (w.heap.size + 1)) #[] #[]] ++ lb, W1, ?_, ?_, ?_, ?_, fun _ => Nat.le_refl _, ?_⟩
  · rw [← hW1, hrec]; exact run_enterLoop_outer _ _ _ _ _
  · simp only [resolve, hg]
    simp [go_sem]
  · intro f' hf'; trivial
  · simp [invoke, go_sem, eg]
  · refine callsIn_wide.2 ?_
    refine (hseq (w.heap.size + 1)
      (fun Y pre W => (∃ Y1, (∀ k, Y k ↔ Y1 k ∨ k = w.heap.size + 1) ∧ ¬ Y1 (w.heap.size + 1) ∧ ¬ Y1 w.heap.size ∧ I Y1 pre W) ∧ W.heap[w.heap.size + 1]? = some (.loop (rec .ready none)) ∧ W.heap[w.heap.size]? = some (.deferred (some [])))
      (fun Y pre W => ∃ c, (∃ Y1, (∀ k, Y k ↔ Y1 k ∨ k = w.heap.size + 1) ∧ ¬ Y1 (w.heap.size + 1) ∧ ¬ Y1 w.heap.size ∧ Ix c Y1 pre W) ∧ W.heap[w.heap.size + 1]? = some (.loop (rec .done (some c))) ∧ W.heap[w.heap.size]? = some (.deferred (some [])))
      (fun k => Y0 k ∨ k = w.heap.size + 1) W1 hb1 ?_ ?_ ?_ ?_ ⟨⟨Y0, fun _ => Iff.rfl, fun h => by have := (hY0 _ h).1; omega, fun h => by have := (hY0 _ h).1; omega, hI _ _ _ _ h0 (KeepS.of_below hbW (fun i hi _ => hi))⟩, hL1, hK1⟩).mono ?_
    · rintro k (hk | rfl)
      · exact ⟨by have := (hY0 k hk).1; omega, (hY0 k hk).2⟩
      · exact ⟨by omega, hZ _ (by omega)⟩
    · rintro Y pre A B ⟨⟨Y1, e1, n1, n2, hi⟩, hl, hk⟩ hs
      exact ⟨⟨Y1, e1, n1, n2, hI _ _ _ _ hi (hs.mono (fun i _ h => h.elim (fun h => .inl (by omega)) (fun h => .inr ((e1 i).2 (.inl h)))))⟩, hs.blk hl (.inl (by omega)), hs.blk hk (.inl (by omega))⟩
    · rintro Y pre A B ⟨c, ⟨Y1, e1, n1, n2, hi⟩, hl, hk⟩ hs
      exact ⟨c, ⟨Y1, e1, n1, n2, hIx _ _ _ _ _ hi (hs.mono (fun i _ h => h.elim (fun h => .inl (by omega)) (fun h => .inr ((e1 i).2 (.inl h)))))⟩, hs.blk hl (.inl (by omega)), hs.blk hk (.inl (by omega))⟩
    · -- one round
      rintro Y pre x vs S A hpre hYA hWA ⟨⟨Y1, e1, n1, n2, hi⟩, hl, hk⟩ hrel hS
      have hlt : w.heap.size + 1 < A.heap.size := (Array.getElem?_eq_some_iff.1 hl).1
      have hy := run_yield (P := P) (args := vs) hl (by rw [hrec]; exact hps x vs S A hrel)
      rw [hrec] at hy
      refine ⟨fn, _, assign, body, hy, roundIn_of_wpIn hfn (hassign _ x vs S A _ hrel ?_)⟩
      clear hy
      intro a' Aa hba hrela hax
      have hla := (hba.block _ hlt).trans hl
      have hka := (hba.block w.heap.size (by omega)).trans hk
      refine ⟨_, run_beginRound hla (by rw [hrec]), ?_⟩
      have hlt2 : w.heap.size + 1 < Aa.heap.size := Nat.lt_of_lt_of_le hlt hba.size
      obtain ⟨Ab, hAb⟩ : ∃ Ab, Aa.putObj (w.heap.size + 1) (.loop { rec .ready none with state := .busy }) = Ab := ⟨_, rfl⟩
      rw [hAb]
      have hl2 : Ab.heap[w.heap.size + 1]? = some (.loop { rec .ready none with state := .busy }) := by rw [← hAb]; exact World.putObj_heap_same hlt2
      have hk2 : Ab.heap[w.heap.size]? = some (.deferred (some [])) := by rw [← hAb]; exact (World.putObj_heap_other (by omega)).trans hka
      have hsb : Ab.heap.size = Aa.heap.size := by rw [← hAb]; exact World.putObj_size
      have hi2 : I Y1 pre Ab := by
        rw [← hAb]
        exact hI _ _ _ _ (hI _ _ _ _ hi (KeepS.of_below hba (fun i hi _ => hi))) (KeepS.putObj _ _ _ (fun h => h.elim (fun h => by omega) n1))
      have hrel2 : Rel x vs S Ab := by rw [← hAb]; exact hRel _ _ _ _ _ _ _ hrela hla
      have hax2 : Ax x vs a' Ab := by rw [← hAb]; exact hAx _ _ _ _ _ _ _ hax hla
      have hkAb : KeepS (fun i => ¬ Y i ∧ ¬ S i) A Ab := by
        rw [← hAb]
        exact (KeepS.of_below hba (fun i hi _ => hi)).trans (KeepS.putObj _ _ _ (fun h => h.1 ((e1 _).2 (.inr rfl))))
      have hb2 := hbody (w.heap.size + 1) A.heap.size Y1 pre x vs S a' Ab hpre hi2 hrel2 hax2 (by omega) hlt (by rw [hsb]; exact hba.size)
        (fun k hk => ⟨(hYA k ((e1 k).2 (.inl hk))).1, (hYA k ((e1 k).2 (.inl hk))).2, fun e => n1 (e ▸ hk)⟩)
        (fun k hk => ⟨by have := (hS k hk).1; omega, (hS k hk).2.1, fun h => (hS k hk).2.2.1 ((e1 k).2 (.inl h)), (hS k hk).2.2.2, fun e => (hS k hk).2.2.1 ((e1 k).2 (.inr e))⟩)
      refine wpIn_mono hb2 ?_
      have nS1 : ¬ S (w.heap.size + 1) := fun h => (hS _ h).2.2.1 ((e1 _).2 (.inr rfl))
      have nS2 : ¬ S w.heap.size := fun h => by have := (hS _ h).1; omega
      have fin : ∀ (jump : Option Code) (Y' : Nat → Prop) (W3 : World), (∀ k, Y' k → Y1 k ∨ S k ∨ A.heap.size ≤ k) → (∀ k, Y' k → k < W3.heap.size) → KeepS (fun i => i < A.heap.size ∧ ¬ Y1 i ∧ ¬ S i) Ab W3 →
          ∃ W4, (Instr.endRound (w.heap.size + 1) jump).run P W3 = .ok (.bool jump.isNone) W4 ∧
          W4.heap[w.heap.size + 1]? = some (.loop (rec (if jump.isNone then .ready else .done) jump)) ∧ W4.heap[w.heap.size]? = some (.deferred (some [])) ∧
          (∀ k, (Y' k ∨ k = w.heap.size + 1) → Y k ∨ S k ∨ A.heap.size ≤ k) ∧ (∀ k, (Y' k ∨ k = w.heap.size + 1) → k < W4.heap.size) ∧ KeepS (fun i => ¬ Y i ∧ ¬ S i) A W4 ∧ ¬ Y' (w.heap.size + 1) ∧ ¬ Y' w.heap.size ∧ KeepS (fun i => i < w.heap.size ∨ Y' i) W3 W4 := fun jump Y' W3 hy1 hy2 hk3 => by
        have hl3 : W3.heap[w.heap.size + 1]? = _ := hk3.blk hl2 ⟨hlt, n1, nS1⟩
        have hk4 : W3.heap[w.heap.size]? = _ := hk3.blk hk2 ⟨by omega, n2, nS2⟩
        have hr := run_endRound (P := P) jump hl3
        have hlt3 : w.heap.size + 1 < W3.heap.size := (Array.getElem?_eq_some_iff.1 hl3).1
        have m1 : ¬ Y' (w.heap.size + 1) := fun h => by
          rcases hy1 _ h with h | h | h
          · exact n1 h
          · exact nS1 h
          · omega
        have m2 : ¬ Y' w.heap.size := fun h => by
          rcases hy1 _ h with h | h | h
          · exact n2 h
          · exact nS2 h
          · omega
        refine ⟨_, hr, ?_, (World.putObj_heap_other (by omega)).trans hk4, ?_, ?_, ?_, m1, m2, KeepS.putObj _ _ _ (fun h => h.elim (fun h => by omega) m1)⟩
        · rw [hrec]; exact World.putObj_heap_same hlt3
        · rintro k (hk | rfl)
          · rcases hy1 k hk with h | h | h
            · exact .inl ((e1 k).2 (.inl h))
            · exact .inr (.inl h)
            · exact .inr (.inr h)
          · exact .inl ((e1 _).2 (.inr rfl))
        · rintro k (hk | rfl)
          · rw [World.putObj_size]; exact hy2 k hk
          · rw [World.putObj_size]; exact hlt3
        · refine ⟨hk3.os.trans hkAb.os, hk3.tape.trans hkAb.tape, hk3.output.trans hkAb.output, Nat.le_trans hkAb.size (by rw [World.putObj_size]; exact hk3.size), fun i hi hn => ?_⟩
          have hne : i ≠ w.heap.size + 1 := fun e => hn.1 ((e1 i).2 (.inr e))
          refine (World.putObj_heap_other hne).trans ((hk3.block i (Nat.lt_of_lt_of_le hi hkAb.size) ⟨hi, fun h => hn.1 ((e1 i).2 (.inl h)), hn.2⟩).trans (hkAb.block i hi hn))
      rintro e a3 W3 ⟨Y', hy1, hy2, hk3, hp⟩
      cases e with
      | normal =>
        obtain ⟨W4, hr, hl4, hk4, q1, q2, q3, m1, m2, q5⟩ := fin none Y' W3 hy1 hy2 hk3
        exact ⟨_, W4, hr, fun k => Y' k ∨ k = w.heap.size + 1, q1, q2, q3, .inl ⟨rfl, ⟨Y', fun _ => Iff.rfl, m1, m2, hI _ _ _ _ hp q5⟩, hl4, hk4⟩⟩
      | ret =>
        obtain ⟨W4, hr, hl4, hk4, q1, q2, q3, m1, m2, q5⟩ := fin (some .ret) Y' W3 hy1 hy2 hk3
        exact ⟨_, W4, hr, fun k => Y' k ∨ k = w.heap.size + 1, q1, q2, q3, .inr ⟨rfl, .ret, ⟨Y', fun _ => Iff.rfl, m1, m2, hIx _ _ _ _ _ hp q5⟩, hl4, hk4⟩⟩
      | exit id =>
        obtain ⟨W4, hr, hl4, hk4, q1, q2, q3, m1, m2, q5⟩ := fin (some (.exit id)) Y' W3 hy1 hy2 hk3
        exact ⟨_, W4, hr, fun k => Y' k ∨ k = w.heap.size + 1, q1, q2, q3, .inr ⟨rfl, .exit id, ⟨Y', fun _ => Iff.rfl, m1, m2, hIx _ _ _ _ _ hp q5⟩, hl4, hk4⟩⟩
      | goto t =>
        obtain ⟨W4, hr, hl4, hk4, q1, q2, q3, m1, m2, q5⟩ := fin (some (.goto t)) Y' W3 hy1 hy2 hk3
        exact ⟨_, W4, hr, fun k => Y' k ∨ k = w.heap.size + 1, q1, q2, q3, .inr ⟨rfl, .goto t, ⟨Y', fun _ => Iff.rfl, m1, m2, hIx _ _ _ _ _ hp q5⟩, hl4, hk4⟩⟩
      | panic ch => exact hp.elim
      | outgrown => exact hp.elim
    · -- behind the iterator
      rintro e W2 ⟨⟨v, rfl⟩, hsz2, Y', (⟨⟨Y1, e1, n1, n2, hi⟩, hl, hk⟩ | ⟨pre, hpre, c, ⟨Y1, e1, n1, n2, hi⟩, hl, hk⟩)⟩
      · exact ⟨none, _, by have := run_endLoop (P := P) hl (by rw [hrec]; simp); rw [hrec] at this; exact this, hdone _ Y1 _ (Nat.le_refl _) (hI _ _ _ _ hi (KeepS.putObj _ _ _ (fun h => h.elim (fun h => by omega) n1))) ((World.putObj_heap_other (by omega)).trans hk)⟩
      · exact ⟨some c, _, by have := run_endLoop (P := P) hl (by rw [hrec]; simp); rw [hrec] at this; exact this, wpIn_wide.2 (hstop _ c Y1 pre _ (Nat.le_refl _) hpre (hIx _ _ _ _ _ hi (KeepS.putObj _ _ _ (fun h => h.elim (fun h => by omega) n1))) ((World.putObj_heap_other (by omega)).trans hk))⟩
/-- A function's contract from its body, where the body holds a range over a function. -/
theorem calls_of_wp_marks {P : Program} {f : FuncId} {fn : Func} {c : Code} {args : Array Value} {w : World} {R : Ending → World → Prop} (hf : P.funcs[f]? = some fn) (hb : fn.body = some c)
    (h : c.wp P (bodyPostM Fence.wide 0 P fn R) { tmps := args ++ Array.replicate (fn.ntmps - args.size) undef, defers := [] } w) : Calls P f args w R :=
  (callsIn_wide (n := 0)).1 (callsIn_of_wp_marks hf hb trivial (wpIn_wide.2 h))
theorem leavesM_nil {P : Program} {fn : Func} {tmps : Array Value} {R : Ending → World → Prop} {w : World} {v : Value} (h : (results fn tmps).run P w = .ok v w) (hR : R (.returned v) w) : LeavesInM Fence.wide 0 P fn tmps R [] .returning w :=
  ⟨v, h, hR⟩
theorem leavesM_mark {P : Program} {fn : Func} {tmps : Array Value} {R : Ending → World → Prop} {w : World} {D : Nat} {ds : List Deferred} (hD : w.heap[D]? = some (.deferred (some [])))
    (h : LeavesInM Fence.wide 0 P fn tmps R ds .returning (w.putObj D (.deferred none))) : LeavesInM Fence.wide 0 P fn tmps R ({ target := .collected D, args := #[] } :: ds) .returning w :=
  ⟨by simp, .inl ⟨D, _, rfl, run_takeDeferred hD, h⟩⟩
theorem uponIn_of2 {P : Program} {n : Nat} {r : Option Nat} {Q : Exit → Act → World → Prop} {o : Oper} {a : Act} {next : Act → World → Prop} : ∀ x, o.upon P a next Q x → o.uponIn { Fence.wide with round := r } n P a next Q x := by
  have hC : ∀ {f : FuncId} {args : Array Value} {w : World} {R : Ending → World → Prop}, Calls P f args w R → CallsIn { Fence.wide with round := r } (n - 1) P f args w R := fun h => ⟨trivial, fun cs _ => ((callsIn_wide (n := n - 1)).2 h).2 cs (room_wide _)⟩
  rintro (⟨x, w⟩ | ⟨h, w⟩) hx
  · cases x with
    | value v => exact hx
    | skip => exact hx
    | defer d => exact hx
    | enter f args => exact ⟨fun h => by simp [Fence.wide] at h, (hC hx).mono (fun e w' he => by cases e <;> exact he)⟩
    | row row args =>
      refine ⟨fun h => by simp [Fence.wide] at h, fun c cs _ => ?_⟩
      obtain ⟨v, w', hr, hs⟩ := hx c cs
      exact ⟨v, w', hr, (StepsIn.of_steps hs).mono fun m _ => fenced_wide P m⟩
    | _ => exact hx.elim
  · cases h <;> exact hx
/-- Operations without a deferred call, in a round's frame (or in a wide fence) as anywhere. -/
theorem wpListIn_of {P : Program} {n : Nat} {r : Option Nat} {ops : Array Oper} {Q : Exit → Act → World → Prop} (hQ : ∀ a w, ¬ Q .outgrown a w) : ∀ (l : List Oper) (hd : ∀ o ∈ l, ∀ c, o.op ≠ .defer c) {a : Act} {w : World}, wpList P ops Q l a w → wpListIn { Fence.wide with round := r } n P ops Q l a w
  | [], _, _, _, h => h
  | o :: rest, hd, a, w, h => by
    have ih := fun a w => wpListIn_of (P := P) (ops := ops) (n := n) (r := r) hQ rest (fun o ho => hd o (List.mem_cons_of_mem _ ho)) (a := a) (w := w)
    unfold wpListIn
    unfold wpList at h
    split
    · rename_i hw
      rw [if_pos hw] at h
      rcases h with h | h
      · have hs : o.semAt r a.eval = execOp a.eval o := by
          cases r with
          | none => rfl
          | some l => exact Oper.semAt_some l _ _ (hd o List.mem_cons_self)
        refine Oper.wpIn_mono (K := wpList P ops Q rest) (fun a w h => ih a w h) ⟨fun f _ => trivial, ?_⟩
        show o.uponIn _ n P a _ Q ((o.semAt r a.eval).run P w)
        rw [hs]
        exact uponIn_of2 _ h
      · obtain ⟨a, w, h⟩ := h.2
        exact absurd h (hQ a w)
    · rename_i hw
      rw [if_neg hw] at h
      exact ⟨fun f _ => trivial, ih _ _ h⟩
theorem wpIn_region_of {P : Program} {n id : Nat} {r : Option Nat} {l : List Oper} {Q : Exit → Act → World → Prop} {a : Act} {w : World} (hQ : ∀ a w, ¬ Q .outgrown a w) (hd : ∀ o ∈ l, ∀ c, o.op ≠ .defer c)
    (h : wpList P l.toArray Q l a w) : (Code.region id l.toArray false).wpIn { Fence.wide with round := r } n P Q a w := wpIn_region_lit (wpListIn_of hQ l hd h)
end Go.Proofs.YtfampmajmbediaaW.PrintWords
