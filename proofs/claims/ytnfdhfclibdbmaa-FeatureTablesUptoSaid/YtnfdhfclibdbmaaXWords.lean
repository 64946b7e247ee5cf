/- Words of the session's own beside the print's words: 'make' of an empty row with a capacity. A template, its names filled in by wip/tools/xprint.py. -/
import Derived.Test.YtnfdhfclibdbmaaWWords
import Derived.Test.YtnfdhfclibdbmaaWMore
import Derived.Lib.LazyBuf
import Derived.Shelf.Abstract
import Derived.Deep.RegionWith
namespace Go.Proofs.YtnfdhfclibdbmaaW.PrintWords
open Go.RowKit
set_option linter.unusedVariables false
theorem pw_isEmpty (l : List UInt8) : l.isEmpty = !(l != []) := by cases l <;> rfl
/-- s > t as the model reads it. -/
theorem pw_gtr : ∀ (x y : List UInt8), (Op.bytesLess x y || x == y) = !Op.bytesLess y x
  | [], [] => rfl
  | [], _ :: _ => rfl
  | _ :: _, [] => rfl
  | a :: x, b :: y => by
    have ih := pw_gtr x y
    rcases Nat.lt_trichotomy a.toNat b.toNat with h | h | h
    · have h1 : a < b := UInt8.lt_iff_toNat_lt.2 h
      have h2 : ¬ b < a := fun hh => by have := UInt8.lt_iff_toNat_lt.1 hh; omega
      have h3 : ¬ b = a := fun hh => by rw [hh] at h; omega
      simp [Op.bytesLess, h1, h2, h3]
    · have : a = b := UInt8.toNat_inj.1 h
      subst this
      have h2 : ¬ a < a := fun hh => by have := UInt8.lt_iff_toNat_lt.1 hh; omega
      simpa [Op.bytesLess, h2] using ih
    · have h1 : b < a := UInt8.lt_iff_toNat_lt.2 h
      have h2 : ¬ a < b := fun hh => by have := UInt8.lt_iff_toNat_lt.1 hh; omega
      have h3 : ¬ a = b := fun hh => by rw [hh] at h; omega
      simp [Op.bytesLess, h1, h2, h3]
namespace Kd
section
variable {P : Program} {ops : Array Oper} {rest : List Oper} {o : Oper} {a : Act} {Q : Exit → Act → World → Prop} {α : Type}
/-- 'make([]T, 0, m)': an empty row of one's own. -/
theorem R_make0 (d : Kd α) {w0 W : World} (base e : Nat) (hgd : o.guard = none) {N : Tmp} (hd : o.dst = some N) (t : TypeId) (x y : Operand) (ho : o.op = .makeSlice t x y) (m : Int) (hx : a.eval x = .int .i64 0) (hy : a.eval y = .int .i64 m)
    (ht : P.underlying t = some (.slice e)) (z : Value) (bytes : Nat) (hinfo : (P.info? e).map (fun i => (i.zero, i.size, i.bytes)) = some (some z, d.sz, bytes)) (hz : z.cells.size = d.sz) (hs0 : 0 < d.sz) (hb0 : 0 < bytes)
    {ok : Nat → Prop} (hfresh : ok W.heap.size) (h0 : 0 ≤ m) (hl : m.toNat * bytes ≤ 281474976710656) (HB : Below base w0 W) (hbase : base ≤ W.heap.size)
    (h : ∀ v1 w1, d.R e w1 base ok v1 ([] : List α) → Below base w0 w1 → W.grownBy w1 none → (∃ b, v1.ownBlock = some b ∧ W.heap.size ≤ b) → wpList P ops Q rest (a.put o.dst v1) w1) : wpList P ops Q (o :: rest) a W := by
  obtain ⟨m, rfl⟩ := Int.eq_ofNat_of_zero_le h0
  simp only [Int.toNat_natCast] at hl
  obtain ⟨i0, hi, hzz⟩ := Option.map_eq_some_iff.1 hinfo
  simp only [Prod.mk.injEq] at hzz
  obtain ⟨hz0, hz1, hz2⟩ := hzz
  have hm : m ≤ 281474976710656 := Nat.le_trans (Nat.le_mul_of_pos_right _ hb0) hl
  have hr := run_make (P := P) (w := W) t e i0 z ht hi hz0 .i64 .i64 (0 : Int) (m : Int) (by omega) (by omega)
    (by
      have h3 : ((i0.bytes * m : Nat) : Int) ≤ 281474976710656 := by rw [hz2, Nat.mul_comm]; omega
      rwa [Int.natCast_mul] at h3) (by omega)
  simp only [Int.toNat_natCast] at hr
  rw [hz1] at hr
  have hrun : (execOp a.eval o).run P W = .ok (.value (.slice (some ⟨W.heap.size, 0, none⟩) 0 m)) (W.alloc (.cells (madeCells z.cells (m * d.sz)) e)) := by
    simp [execOp, ho, hx, hy, hr]
  refine event_run hgd hrun (h _ _ ⟨fun k hk => ?_, [], ?_, Reps.none _ _⟩ (HB.alloc hbase _) (World.grownBy_alloc W _ none) ⟨W.heap.size, by simp [Value.ownBlock], Nat.le_refl _⟩)
  · have : W.heap.size = k := by simpa [Value.ownBlock] using hk
    subst this
    exact hfresh
  · refine ⟨by simp, .inr ⟨W.heap.size, m, madeCells z.cells (m * d.sz), rfl, hbase, heap_alloc_new W _, Nat.zero_le _, by simp only [maxLen]; omega, size_madeCells _ _, by simp⟩⟩
end
end Kd
end Go.Proofs.YtnfdhfclibdbmaaW.PrintWords
