-- Written by the session's own program wip/tools/xprint.py out of the translation, with the kit's print.py on a scratch copy; functions given by hand stand among them.
import Derived.Test.YtolpckflofjfhaaDoorPx0
import Derived.Test.YtolpckflofjfhaaDoorPx2
import Derived.Test.YtolpckflofjfhaaDoorPx3
namespace Go.Proofs.YtolpckflofjfhaaDoor.P
open Go.RowKit Go.Proofs.YtolpckflofjfhaaDoorW.PrintWords Go.Proofs.YtolpckflofjfhaaDoorW.PrintLast Go.Proofs.YtolpckflofjfhaaDoorW.PrintMore
attribute [local go_sem] max2_int min2_int max_two min_two max_three min_three max_four min_four   -- for this text's walks alone
set_option linter.unusedVariables false
set_option linter.unusedSimpArgs false

/-! ### formula_fields: function 74 -/
mutual
def formula_fields.j0 : Nat → Int → Bool → Int → ByteArray → List (S92) → Int → Int → List (S32) → Option (Bool)
 | 0, _, _, _, _, _, _, _, _ => none
 | k + 1, x1, x19, x118000, x118001, x118002, x118003, x118004, x118005 => if x19 = true then (some false) else (if x118000 = 3 then (formula_fields.j1 k x1 false x118000 x118001 x118002 x118003 x118004 x118005) else (formula_fields.j1 k x1 (decide ((x118002.length : Int) > 0)) x118000 x118001 x118002 x118003 x118004 x118005))
def formula_fields.j1 : Nat → Int → Bool → Int → ByteArray → List (S92) → Int → Int → List (S32) → Option (Bool)
 | 0, _, _, _, _, _, _, _, _ => none
 | k + 1, x1, x28, x118000, x118001, x118002, x118003, x118004, x118005 => if x28 = true then (some false) else (if x118000 = 3 then (formula_fields.j2 k x1 false x118000 x118001 x118002 x118003 x118004 x118005) else ((formula_binds.f x118000).bind fun t118 => (if t118 = true then (formula_fields.j2 k x1 false x118000 x118001 x118002 x118003 x118004 x118005) else (formula_fields.j2 k x1 (x118001.toList != ([] : List UInt8)) x118000 x118001 x118002 x118003 x118004 x118005))))
def formula_fields.j2 : Nat → Int → Bool → Int → ByteArray → List (S92) → Int → Int → List (S32) → Option (Bool)
 | 0, _, _, _, _, _, _, _, _ => none
 | k + 1, x1, x42, x118000, x118001, x118002, x118003, x118004, x118005 => if x42 = true then (some false) else (if x118000 = 1 then (formula_fields.j3 k x1 x118000 (x118000 == 1) x118000 x118001 x118002 x118003 x118004 x118005) else (formula_fields.j3 k x1 x118000 (x118000 == 2) x118000 x118001 x118002 x118003 x118004 x118005))
def formula_fields.j3 : Nat → Int → Int → Bool → Int → ByteArray → List (S92) → Int → Int → List (S32) → Option (Bool)
 | 0, _, _, _, _, _, _, _, _, _ => none
 | k + 1, x1, x44, x45, x118000, x118001, x118002, x118003, x118004, x118005 => if x45 = true then (some ((x118005.length : Int) == 0)) else (if x44 = 3 then (formula_fields.l0 k x1 x118002 (x118002.length : Int) 0 x118000 x118001 x118002 x118003 x118004 x118005) else (if x44 = 4 then (formula_fields.j5 k x44 (x44 == 4) x118000 x118001 x118002 x118003 x118004 x118005) else (if x44 = 11 then (formula_fields.j5 k x44 (x44 == 11) x118000 x118001 x118002 x118003 x118004 x118005) else (formula_fields.j5 k x44 (x44 == 12) x118000 x118001 x118002 x118003 x118004 x118005))))
def formula_fields.l0 : Nat → Int → List (S92) → Int → Int → Int → ByteArray → List (S92) → Int → Int → List (S32) → Option (Bool)
 | 0, _, _, _, _, _, _, _, _, _, _ => none
 | k + 1, x1, x55, x56, x57, x118000, x118001, x118002, x118003, x118004, x118005 => if x57 < x56 then (if 0 ≤ x57 then (if x57 < (x55.length : Int) then ((formula_reference.f k ((rd_T92 x55 x57).f0) ((rd_T92 x55 x57).f1) ((rd_T92 x55 x57).f2) x1).bind fun t121 => (if t121 = true then (formula_fields.l0 k x1 x55 x56 (wrap64 (x57 + 1)) x118000 x118001 x118002 x118003 x118004 x118005) else (some false))) else (none)) else (none)) else (if (x118005.length : Int) = 0 then (if (x118002.length : Int) ≥ 1 then (if (x118002.length : Int) ≤ 3 then ((formula_symbol.f k x118001).bind fun t122 => (some t122)) else (some false)) else (some false)) else (some false))
def formula_fields.j5 : Nat → Int → Bool → Int → ByteArray → List (S92) → Int → Int → List (S32) → Option (Bool)
 | 0, _, _, _, _, _, _, _, _ => none
 | k + 1, x44, x87, x118000, x118001, x118002, x118003, x118004, x118005 => if x87 = true then (some ((x118005.length : Int) == 1)) else (if x44 = 5 then (formula_fields.j6 k x44 (x44 == 5) x118000 x118001 x118002 x118003 x118004 x118005) else (formula_fields.j6 k x44 (x44 == 6) x118000 x118001 x118002 x118003 x118004 x118005))
def formula_fields.j6 : Nat → Int → Bool → Int → ByteArray → List (S92) → Int → Int → List (S32) → Option (Bool)
 | 0, _, _, _, _, _, _, _, _ => none
 | k + 1, x44, x95, x118000, x118001, x118002, x118003, x118004, x118005 => if x95 = true then (some true) else (if x44 = 7 then (some ((x118005.length : Int) == 2)) else (if x44 = 8 then (formula_fields.j7 k x44 (x44 == 8) x118000 x118001 x118002 x118003 x118004 x118005) else (formula_fields.j7 k x44 (x44 == 9) x118000 x118001 x118002 x118003 x118004 x118005)))
def formula_fields.j7 : Nat → Int → Bool → Int → ByteArray → List (S92) → Int → Int → List (S32) → Option (Bool)
 | 0, _, _, _, _, _, _, _, _ => none
 | k + 1, x44, x104, x118000, x118001, x118002, x118003, x118004, x118005 => if x104 = true then (if (x118005.length : Int) = 1 then ((formula_symbol.f k x118001).bind fun t123 => (some t123)) else (some false)) else (if x44 = 10 then (if (x118005.length : Int) = 1 then ((formula_moment.f x118003).bind fun t124 => (if t124 = true then ((formula_moment.f x118004).bind fun t125 => (some t125)) else (some false))) else (some false)) else (some false))
end
def formula_fields.f (k : Nat) (a0_0 : Int) (a0_1 : ByteArray) (l0_2 : List (S92)) (a0_3 : Int) (a0_4 : Int) (l0_5 : List (S32)) (a1 : Int) : Option (Bool) := if a0_0 = 10 then (formula_fields.j0 k a1 false a0_0 a0_1 l0_2 a0_3 a0_4 l0_5) else (if a0_3 = 0 then (formula_fields.j0 k a1 (a0_4 != 0) a0_0 a0_1 l0_2 a0_3 a0_4 l0_5) else (formula_fields.j0 k a1 true a0_0 a0_1 l0_2 a0_3 a0_4 l0_5))
theorem formula_fields.mono_l : ∀ k, (∀ y0 y1 y2 y3 y4 y5 y6 y7, LeO (formula_fields.j0 k y0 y1 y2 y3 y4 y5 y6 y7) (formula_fields.j0 (k + 1) y0 y1 y2 y3 y4 y5 y6 y7)) ∧ (∀ y0 y1 y2 y3 y4 y5 y6 y7, LeO (formula_fields.j1 k y0 y1 y2 y3 y4 y5 y6 y7) (formula_fields.j1 (k + 1) y0 y1 y2 y3 y4 y5 y6 y7)) ∧ (∀ y0 y1 y2 y3 y4 y5 y6 y7, LeO (formula_fields.j2 k y0 y1 y2 y3 y4 y5 y6 y7) (formula_fields.j2 (k + 1) y0 y1 y2 y3 y4 y5 y6 y7)) ∧ (∀ y0 y1 y2 y3 y4 y5 y6 y7 y8, LeO (formula_fields.j3 k y0 y1 y2 y3 y4 y5 y6 y7 y8) (formula_fields.j3 (k + 1) y0 y1 y2 y3 y4 y5 y6 y7 y8)) ∧ (∀ y0 y1 y2 y3 y4 y5 y6 y7 y8 y9, LeO (formula_fields.l0 k y0 y1 y2 y3 y4 y5 y6 y7 y8 y9) (formula_fields.l0 (k + 1) y0 y1 y2 y3 y4 y5 y6 y7 y8 y9)) ∧ (∀ y0 y1 y2 y3 y4 y5 y6 y7, LeO (formula_fields.j5 k y0 y1 y2 y3 y4 y5 y6 y7) (formula_fields.j5 (k + 1) y0 y1 y2 y3 y4 y5 y6 y7)) ∧ (∀ y0 y1 y2 y3 y4 y5 y6 y7, LeO (formula_fields.j6 k y0 y1 y2 y3 y4 y5 y6 y7) (formula_fields.j6 (k + 1) y0 y1 y2 y3 y4 y5 y6 y7)) ∧ (∀ y0 y1 y2 y3 y4 y5 y6 y7, LeO (formula_fields.j7 k y0 y1 y2 y3 y4 y5 y6 y7) (formula_fields.j7 (k + 1) y0 y1 y2 y3 y4 y5 y6 y7))
 | 0 => ⟨fun _ _ _ _ _ _ _ _ r h => by simp [formula_fields.j0] at h, fun _ _ _ _ _ _ _ _ r h => by simp [formula_fields.j1] at h, fun _ _ _ _ _ _ _ _ r h => by simp [formula_fields.j2] at h, fun _ _ _ _ _ _ _ _ _ r h => by simp [formula_fields.j3] at h, fun _ _ _ _ _ _ _ _ _ _ r h => by simp [formula_fields.l0] at h, fun _ _ _ _ _ _ _ _ r h => by simp [formula_fields.j5] at h, fun _ _ _ _ _ _ _ _ r h => by simp [formula_fields.j6] at h, fun _ _ _ _ _ _ _ _ r h => by simp [formula_fields.j7] at h⟩
 | k + 1 => by
  obtain ⟨ih0, ih1, ih2, ih3, ih4, ih5, ih6, ih7⟩ := formula_fields.mono_l k
  refine ⟨?_, ?_, ?_, ?_, ?_, ?_, ?_, ?_⟩
  ·intro y0 y1 y2 y3 y4 y5 y6 y7
   unfold formula_fields.j0
   repeat' first
   | (with_reducible exact ih0 _ _ _ _ _ _ _ _)
   | (with_reducible exact ih1 _ _ _ _ _ _ _ _)
   | (with_reducible exact ih2 _ _ _ _ _ _ _ _)
   | (with_reducible exact ih3 _ _ _ _ _ _ _ _ _)
   | (with_reducible exact ih4 _ _ _ _ _ _ _ _ _ _)
   | (with_reducible exact ih5 _ _ _ _ _ _ _ _)
   | (with_reducible exact ih6 _ _ _ _ _ _ _ _)
   | (with_reducible exact ih7 _ _ _ _ _ _ _ _)
   | (with_reducible exact formula_reference.mono _ _ _ _ _)
   | (with_reducible exact formula_symbol.mono _ _)
   | (with_reducible exact LeO.refl _)
   | (with_reducible exact LeO.none _)
   | (with_reducible refine LeO.ite ?_ ?_)
   | (with_reducible refine LeO.bind ?_ (fun _ => ?_))
   | exact ih0 _ _ _ _ _ _ _ _
   | exact ih1 _ _ _ _ _ _ _ _
   | exact ih2 _ _ _ _ _ _ _ _
   | exact ih3 _ _ _ _ _ _ _ _ _
   | exact ih4 _ _ _ _ _ _ _ _ _ _
   | exact ih5 _ _ _ _ _ _ _ _
   | exact ih6 _ _ _ _ _ _ _ _
   | exact ih7 _ _ _ _ _ _ _ _
   | exact formula_reference.mono _ _ _ _ _
   | exact formula_symbol.mono _ _
   | exact LeO.none _
   | refine LeO.ite ?_ ?_
   | refine LeO.bind ?_ (fun _ => ?_)
  ·intro y0 y1 y2 y3 y4 y5 y6 y7
   unfold formula_fields.j1
   repeat' first
   | (with_reducible exact ih0 _ _ _ _ _ _ _ _)
   | (with_reducible exact ih1 _ _ _ _ _ _ _ _)
   | (with_reducible exact ih2 _ _ _ _ _ _ _ _)
   | (with_reducible exact ih3 _ _ _ _ _ _ _ _ _)
   | (with_reducible exact ih4 _ _ _ _ _ _ _ _ _ _)
   | (with_reducible exact ih5 _ _ _ _ _ _ _ _)
   | (with_reducible exact ih6 _ _ _ _ _ _ _ _)
   | (with_reducible exact ih7 _ _ _ _ _ _ _ _)
   | (with_reducible exact formula_reference.mono _ _ _ _ _)
   | (with_reducible exact formula_symbol.mono _ _)
   | (with_reducible exact LeO.refl _)
   | (with_reducible exact LeO.none _)
   | (with_reducible refine LeO.ite ?_ ?_)
   | (with_reducible refine LeO.bind ?_ (fun _ => ?_))
   | exact ih0 _ _ _ _ _ _ _ _
   | exact ih1 _ _ _ _ _ _ _ _
   | exact ih2 _ _ _ _ _ _ _ _
   | exact ih3 _ _ _ _ _ _ _ _ _
   | exact ih4 _ _ _ _ _ _ _ _ _ _
   | exact ih5 _ _ _ _ _ _ _ _
   | exact ih6 _ _ _ _ _ _ _ _
   | exact ih7 _ _ _ _ _ _ _ _
   | exact formula_reference.mono _ _ _ _ _
   | exact formula_symbol.mono _ _
   | exact LeO.none _
   | refine LeO.ite ?_ ?_
   | refine LeO.bind ?_ (fun _ => ?_)
  ·intro y0 y1 y2 y3 y4 y5 y6 y7
   unfold formula_fields.j2
   repeat' first
   | (with_reducible exact ih0 _ _ _ _ _ _ _ _)
   | (with_reducible exact ih1 _ _ _ _ _ _ _ _)
   | (with_reducible exact ih2 _ _ _ _ _ _ _ _)
   | (with_reducible exact ih3 _ _ _ _ _ _ _ _ _)
   | (with_reducible exact ih4 _ _ _ _ _ _ _ _ _ _)
   | (with_reducible exact ih5 _ _ _ _ _ _ _ _)
   | (with_reducible exact ih6 _ _ _ _ _ _ _ _)
   | (with_reducible exact ih7 _ _ _ _ _ _ _ _)
   | (with_reducible exact formula_reference.mono _ _ _ _ _)
   | (with_reducible exact formula_symbol.mono _ _)
   | (with_reducible exact LeO.refl _)
   | (with_reducible exact LeO.none _)
   | (with_reducible refine LeO.ite ?_ ?_)
   | (with_reducible refine LeO.bind ?_ (fun _ => ?_))
   | exact ih0 _ _ _ _ _ _ _ _
   | exact ih1 _ _ _ _ _ _ _ _
   | exact ih2 _ _ _ _ _ _ _ _
   | exact ih3 _ _ _ _ _ _ _ _ _
   | exact ih4 _ _ _ _ _ _ _ _ _ _
   | exact ih5 _ _ _ _ _ _ _ _
   | exact ih6 _ _ _ _ _ _ _ _
   | exact ih7 _ _ _ _ _ _ _ _
   | exact formula_reference.mono _ _ _ _ _
   | exact formula_symbol.mono _ _
   | exact LeO.none _
   | refine LeO.ite ?_ ?_
   | refine LeO.bind ?_ (fun _ => ?_)
  ·intro y0 y1 y2 y3 y4 y5 y6 y7 y8
   unfold formula_fields.j3
   repeat' first
   | (with_reducible exact ih0 _ _ _ _ _ _ _ _)
   | (with_reducible exact ih1 _ _ _ _ _ _ _ _)
   | (with_reducible exact ih2 _ _ _ _ _ _ _ _)
   | (with_reducible exact ih3 _ _ _ _ _ _ _ _ _)
   | (with_reducible exact ih4 _ _ _ _ _ _ _ _ _ _)
   | (with_reducible exact ih5 _ _ _ _ _ _ _ _)
   | (with_reducible exact ih6 _ _ _ _ _ _ _ _)
   | (with_reducible exact ih7 _ _ _ _ _ _ _ _)
   | (with_reducible exact formula_reference.mono _ _ _ _ _)
   | (with_reducible exact formula_symbol.mono _ _)
   | (with_reducible exact LeO.refl _)
   | (with_reducible exact LeO.none _)
   | (with_reducible refine LeO.ite ?_ ?_)
   | (with_reducible refine LeO.bind ?_ (fun _ => ?_))
   | exact ih0 _ _ _ _ _ _ _ _
   | exact ih1 _ _ _ _ _ _ _ _
   | exact ih2 _ _ _ _ _ _ _ _
   | exact ih3 _ _ _ _ _ _ _ _ _
   | exact ih4 _ _ _ _ _ _ _ _ _ _
   | exact ih5 _ _ _ _ _ _ _ _
   | exact ih6 _ _ _ _ _ _ _ _
   | exact ih7 _ _ _ _ _ _ _ _
   | exact formula_reference.mono _ _ _ _ _
   | exact formula_symbol.mono _ _
   | exact LeO.none _
   | refine LeO.ite ?_ ?_
   | refine LeO.bind ?_ (fun _ => ?_)
  ·intro y0 y1 y2 y3 y4 y5 y6 y7 y8 y9
   unfold formula_fields.l0
   repeat' first
   | (with_reducible exact ih0 _ _ _ _ _ _ _ _)
   | (with_reducible exact ih1 _ _ _ _ _ _ _ _)
   | (with_reducible exact ih2 _ _ _ _ _ _ _ _)
   | (with_reducible exact ih3 _ _ _ _ _ _ _ _ _)
   | (with_reducible exact ih4 _ _ _ _ _ _ _ _ _ _)
   | (with_reducible exact ih5 _ _ _ _ _ _ _ _)
   | (with_reducible exact ih6 _ _ _ _ _ _ _ _)
   | (with_reducible exact ih7 _ _ _ _ _ _ _ _)
   | (with_reducible exact formula_reference.mono _ _ _ _ _)
   | (with_reducible exact formula_symbol.mono _ _)
   | (with_reducible exact LeO.refl _)
   | (with_reducible exact LeO.none _)
   | (with_reducible refine LeO.ite ?_ ?_)
   | (with_reducible refine LeO.bind ?_ (fun _ => ?_))
   | exact ih0 _ _ _ _ _ _ _ _
   | exact ih1 _ _ _ _ _ _ _ _
   | exact ih2 _ _ _ _ _ _ _ _
   | exact ih3 _ _ _ _ _ _ _ _ _
   | exact ih4 _ _ _ _ _ _ _ _ _ _
   | exact ih5 _ _ _ _ _ _ _ _
   | exact ih6 _ _ _ _ _ _ _ _
   | exact ih7 _ _ _ _ _ _ _ _
   | exact formula_reference.mono _ _ _ _ _
   | exact formula_symbol.mono _ _
   | exact LeO.none _
   | refine LeO.ite ?_ ?_
   | refine LeO.bind ?_ (fun _ => ?_)
  ·intro y0 y1 y2 y3 y4 y5 y6 y7
   unfold formula_fields.j5
   repeat' first
   | (with_reducible exact ih0 _ _ _ _ _ _ _ _)
   | (with_reducible exact ih1 _ _ _ _ _ _ _ _)
   | (with_reducible exact ih2 _ _ _ _ _ _ _ _)
   | (with_reducible exact ih3 _ _ _ _ _ _ _ _ _)
   | (with_reducible exact ih4 _ _ _ _ _ _ _ _ _ _)
   | (with_reducible exact ih5 _ _ _ _ _ _ _ _)
   | (with_reducible exact ih6 _ _ _ _ _ _ _ _)
   | (with_reducible exact ih7 _ _ _ _ _ _ _ _)
   | (with_reducible exact formula_reference.mono _ _ _ _ _)
   | (with_reducible exact formula_symbol.mono _ _)
   | (with_reducible exact LeO.refl _)
   | (with_reducible exact LeO.none _)
   | (with_reducible refine LeO.ite ?_ ?_)
   | (with_reducible refine LeO.bind ?_ (fun _ => ?_))
   | exact ih0 _ _ _ _ _ _ _ _
   | exact ih1 _ _ _ _ _ _ _ _
   | exact ih2 _ _ _ _ _ _ _ _
   | exact ih3 _ _ _ _ _ _ _ _ _
   | exact ih4 _ _ _ _ _ _ _ _ _ _
   | exact ih5 _ _ _ _ _ _ _ _
   | exact ih6 _ _ _ _ _ _ _ _
   | exact ih7 _ _ _ _ _ _ _ _
   | exact formula_reference.mono _ _ _ _ _
   | exact formula_symbol.mono _ _
   | exact LeO.none _
   | refine LeO.ite ?_ ?_
   | refine LeO.bind ?_ (fun _ => ?_)
  ·intro y0 y1 y2 y3 y4 y5 y6 y7
   unfold formula_fields.j6
   repeat' first
   | (with_reducible exact ih0 _ _ _ _ _ _ _ _)
   | (with_reducible exact ih1 _ _ _ _ _ _ _ _)
   | (with_reducible exact ih2 _ _ _ _ _ _ _ _)
   | (with_reducible exact ih3 _ _ _ _ _ _ _ _ _)
   | (with_reducible exact ih4 _ _ _ _ _ _ _ _ _ _)
   | (with_reducible exact ih5 _ _ _ _ _ _ _ _)
   | (with_reducible exact ih6 _ _ _ _ _ _ _ _)
   | (with_reducible exact ih7 _ _ _ _ _ _ _ _)
   | (with_reducible exact formula_reference.mono _ _ _ _ _)
   | (with_reducible exact formula_symbol.mono _ _)
   | (with_reducible exact LeO.refl _)
   | (with_reducible exact LeO.none _)
   | (with_reducible refine LeO.ite ?_ ?_)
   | (with_reducible refine LeO.bind ?_ (fun _ => ?_))
   | exact ih0 _ _ _ _ _ _ _ _
   | exact ih1 _ _ _ _ _ _ _ _
   | exact ih2 _ _ _ _ _ _ _ _
   | exact ih3 _ _ _ _ _ _ _ _ _
   | exact ih4 _ _ _ _ _ _ _ _ _ _
   | exact ih5 _ _ _ _ _ _ _ _
   | exact ih6 _ _ _ _ _ _ _ _
   | exact ih7 _ _ _ _ _ _ _ _
   | exact formula_reference.mono _ _ _ _ _
   | exact formula_symbol.mono _ _
   | exact LeO.none _
   | refine LeO.ite ?_ ?_
   | refine LeO.bind ?_ (fun _ => ?_)
  ·intro y0 y1 y2 y3 y4 y5 y6 y7
   unfold formula_fields.j7
   repeat' first
   | (with_reducible exact ih0 _ _ _ _ _ _ _ _)
   | (with_reducible exact ih1 _ _ _ _ _ _ _ _)
   | (with_reducible exact ih2 _ _ _ _ _ _ _ _)
   | (with_reducible exact ih3 _ _ _ _ _ _ _ _ _)
   | (with_reducible exact ih4 _ _ _ _ _ _ _ _ _ _)
   | (with_reducible exact ih5 _ _ _ _ _ _ _ _)
   | (with_reducible exact ih6 _ _ _ _ _ _ _ _)
   | (with_reducible exact ih7 _ _ _ _ _ _ _ _)
   | (with_reducible exact formula_reference.mono _ _ _ _ _)
   | (with_reducible exact formula_symbol.mono _ _)
   | (with_reducible exact LeO.refl _)
   | (with_reducible exact LeO.none _)
   | (with_reducible refine LeO.ite ?_ ?_)
   | (with_reducible refine LeO.bind ?_ (fun _ => ?_))
   | exact ih0 _ _ _ _ _ _ _ _
   | exact ih1 _ _ _ _ _ _ _ _
   | exact ih2 _ _ _ _ _ _ _ _
   | exact ih3 _ _ _ _ _ _ _ _ _
   | exact ih4 _ _ _ _ _ _ _ _ _ _
   | exact ih5 _ _ _ _ _ _ _ _
   | exact ih6 _ _ _ _ _ _ _ _
   | exact ih7 _ _ _ _ _ _ _ _
   | exact formula_reference.mono _ _ _ _ _
   | exact formula_symbol.mono _ _
   | exact LeO.none _
   | refine LeO.ite ?_ ?_
   | refine LeO.bind ?_ (fun _ => ?_)
theorem formula_fields.mono : ∀ a0 a1 a2 a3 a4 a5 a6 k, LeO (formula_fields.f k a0 a1 a2 a3 a4 a5 a6) (formula_fields.f (k + 1) a0 a1 a2 a3 a4 a5 a6) := by
 intro a0 a1 a2 a3 a4 a5 a6 k
 obtain ⟨ih0, ih1, ih2, ih3, ih4, ih5, ih6, ih7⟩ := formula_fields.mono_l k
 unfold formula_fields.f
 repeat' first
   | (with_reducible exact ih0 _ _ _ _ _ _ _ _)
   | (with_reducible exact ih1 _ _ _ _ _ _ _ _)
   | (with_reducible exact ih2 _ _ _ _ _ _ _ _)
   | (with_reducible exact ih3 _ _ _ _ _ _ _ _ _)
   | (with_reducible exact ih4 _ _ _ _ _ _ _ _ _ _)
   | (with_reducible exact ih5 _ _ _ _ _ _ _ _)
   | (with_reducible exact ih6 _ _ _ _ _ _ _ _)
   | (with_reducible exact ih7 _ _ _ _ _ _ _ _)
   | (with_reducible exact formula_reference.mono _ _ _ _ _)
   | (with_reducible exact formula_symbol.mono _ _)
   | (with_reducible exact LeO.refl _)
   | (with_reducible exact LeO.none _)
   | (with_reducible refine LeO.ite ?_ ?_)
   | (with_reducible refine LeO.bind ?_ (fun _ => ?_))
   | exact ih0 _ _ _ _ _ _ _ _
   | exact ih1 _ _ _ _ _ _ _ _
   | exact ih2 _ _ _ _ _ _ _ _
   | exact ih3 _ _ _ _ _ _ _ _ _
   | exact ih4 _ _ _ _ _ _ _ _ _ _
   | exact ih5 _ _ _ _ _ _ _ _
   | exact ih6 _ _ _ _ _ _ _ _
   | exact ih7 _ _ _ _ _ _ _ _
   | exact formula_reference.mono _ _ _ _ _
   | exact formula_symbol.mono _ _
   | exact LeO.none _
   | refine LeO.ite ?_ ?_
   | refine LeO.bind ?_ (fun _ => ?_)
set_option maxHeartbeats 8000000 in
set_option maxRecDepth 100000 in
theorem formula_fields.calls (k : Nat) (a0_0 : Int) (a0_1 : ByteArray) (A0_2 : Option Addr) (c0_2 : Nat) (l0_2 : List (S92)) (a0_3 : Int) (a0_4 : Int) (A0_5 : Option Addr) (c0_5 : Nat) (l0_5 : List (S32)) (a1 : Int) (r : Bool) (w : World) (hr0_2 : Kd.C k92 w A0_2 l0_2.length l0_2) (hc0_2 : l0_2.length ≤ c0_2) (hr0_5 : Kd.C k32 w A0_5 l0_5.length l0_5) (hc0_5 : l0_5.length ≤ c0_5) (h : formula_fields.f k a0_0 a0_1 l0_2 a0_3 a0_4 l0_5 a1 = some r) :
  Calls Tryd.prog 74 #[.agg #[.int .i64 a0_0, .string a0_1, .slice A0_2 l0_2.length c0_2, .int .i64 a0_3, .int .i64 a0_4, .slice A0_5 l0_5.length c0_5], .int .i64 a1] w fun e w' => e = .returned (.bool r) ∧ Below w.heap.size w w' := by
 have hu32 := Tryd.underlying32
 have hu92 := Tryd.underlying92
 have HR0_2 := Aside0.mk hr0_2
 have HC0_2 := Aside0.mk hc0_2
 clear hr0_2 hc0_2
 have HR0_5 := Aside0.mk hr0_5
 have HC0_5 := Aside0.mk hc0_5
 clear hr0_5 hc0_5
 have HB := Aside0.mk (Below.refl w.heap.size w)
 have H : (if a0_0 = 10 then (formula_fields.j0 k a1 false a0_0 a0_1 l0_2 a0_3 a0_4 l0_5) else (if a0_3 = 0 then (formula_fields.j0 k a1 (a0_4 != 0) a0_0 a0_1 l0_2 a0_3 a0_4 l0_5) else (formula_fields.j0 k a1 true a0_0 a0_1 l0_2 a0_3 a0_4 l0_5))) = some r := h
 clear h
 have HC3 := Aside0.mk H
 clear H
 go_enter Tryd.func74, Tryd.ntmps74
 go_upto_region 1 with (first | ((with_reducible refine gate_dst (N := 2) rfl ?_); (try (refine gate_guard (by rfl) ?_; dsimp only)); refine box_event ?hg (N := 2) ?hd (cs := #[.int .i64 a0_0, .string a0_1, .slice A0_2 l0_2.length c0_2, .int .i64 a0_3, .int .i64 a0_4, .slice A0_5 l0_5.length c0_5]) (t := 32) ?hr ?_; (case hd => rfl); (case hg => rfl); (case hr => first | (go_simp; done) | (go_simp; rfl)); intro gb117 hg w4 hbox hb; have n0_ := Aside0.mk (below_step (be_ HB) hb); have n1_ := Aside0.mk (hbox); have n2_ := Aside0.mk ((by rw [hg]; exact (below_size (be_ HB)) : w.heap.size ≤ gb117)); have n3_ := Aside0.mk ((by rw [hg]; exact (below_size (be_ HB)) : w.heap.size ≤ gb117)); clear HB; have HB := n0_; have BK117 := n1_; have GW117 := n2_; have GE117 := n3_; clear n0_ n1_ n2_ n3_; clear hb hbox hg))
 (try simp only [Act.put, List.setIfInBounds_toArray, List.set_cons_zero, List.set_cons_succ])
 go_cut [19] (fun v19 wc => ∃ (kq : Nat) (x19_2 : Bool), v19 = .bool x19_2 ∧ Aside0 (formula_fields.j0 kq a1 x19_2 a0_0 a0_1 l0_2 a0_3 a0_4 l0_5 = some r) ∧ Aside0 (kq ≤ k) ∧ Aside0 (wc.heap[gb117]? = some (.cells #[.int .i64 a0_0, .string a0_1, (.slice A0_2 l0_2.length c0_2), .int .i64 a0_3, .int .i64 a0_4, (.slice A0_5 l0_5.length c0_5)] 32 (0, 0))) ∧ Aside0 (Below w.heap.size w wc))
 case first =>
  have H := HC3.out
  clear HC3
  by_cases c5 : a0_0 = 10
  ·rw [if_pos c5] at H
   have c5b0 : (a0_0 == 10) = true := beq_iff_eq.mpr c5
   have c5b1 : (a0_0 != 10) = false := bne_eq_false_iff_eq.mpr c5
   clear c5
   (first | rw [c5b0] | (simp only [i64_w, i32_w]; rw [c5b0]) | skip)
   have H' := Aside0.mk H
   clear H
   have hcz6_0 : w4.cell? ⟨gb117, 0, none⟩ = some (.int .i64 a0_0) := (blk_cell BK117.out 0).trans rfl
   have hcz6_1 : w4.cell? ⟨gb117, 1, none⟩ = some (.string a0_1) := (blk_cell BK117.out 1).trans rfl
   have hcz6_2 : w4.cell? ⟨gb117, 2, none⟩ = some (.slice A0_2 l0_2.length c0_2) := (blk_cell BK117.out 2).trans rfl
   have hcz6_3 : w4.cell? ⟨gb117, 3, none⟩ = some (.int .i64 a0_3) := (blk_cell BK117.out 3).trans rfl
   have hcz6_4 : w4.cell? ⟨gb117, 4, none⟩ = some (.int .i64 a0_4) := (blk_cell BK117.out 4).trans rfl
   have hcz6_5 : w4.cell? ⟨gb117, 5, none⟩ = some (.slice A0_5 l0_5.length c0_5) := (blk_cell BK117.out 5).trans rfl
   have hfz6_0 := blk_frozen BK117.out 0
   have hfz6_1 := blk_frozen BK117.out 1
   have hfz6_2 := blk_frozen BK117.out 2
   have hfz6_3 := blk_frozen BK117.out 3
   have hfz6_4 := blk_frozen BK117.out 4
   have hfz6_5 := blk_frozen BK117.out 5
   go_wp2
   go_meet
   case rel => exact ⟨_, (false), (by first | rfl | (simp; done) | (simp [*]; done) | (simp [pw_isEmpty]; done)), H', ⟨by first | omega | exact Nat.le_refl _⟩, ⟨bq_ BK117⟩, ⟨be1_ HB GE117⟩⟩
  ·rw [if_neg c5] at H
   have c5b0 : (a0_0 == 10) = false := beq_eq_false_iff_ne.mpr c5
   have c5b1 : (a0_0 != 10) = true := bne_iff_ne.mpr c5
   (first | rw [c5b0] | (simp only [i64_w, i32_w]; rw [c5b0]) | skip)
   by_cases c7 : a0_3 = 0
   ·rw [if_pos c7] at H
    have c7b0 : (a0_3 == 0) = true := beq_iff_eq.mpr c7
    have c7b1 : (a0_3 != 0) = false := bne_eq_false_iff_eq.mpr c7
    clear c7
    have H' := Aside0.mk H
    clear H
    have hcz8_0 : w4.cell? ⟨gb117, 0, none⟩ = some (.int .i64 a0_0) := (blk_cell BK117.out 0).trans rfl
    have hcz8_1 : w4.cell? ⟨gb117, 1, none⟩ = some (.string a0_1) := (blk_cell BK117.out 1).trans rfl
    have hcz8_2 : w4.cell? ⟨gb117, 2, none⟩ = some (.slice A0_2 l0_2.length c0_2) := (blk_cell BK117.out 2).trans rfl
    have hcz8_3 : w4.cell? ⟨gb117, 3, none⟩ = some (.int .i64 a0_3) := (blk_cell BK117.out 3).trans rfl
    have hcz8_4 : w4.cell? ⟨gb117, 4, none⟩ = some (.int .i64 a0_4) := (blk_cell BK117.out 4).trans rfl
    have hcz8_5 : w4.cell? ⟨gb117, 5, none⟩ = some (.slice A0_5 l0_5.length c0_5) := (blk_cell BK117.out 5).trans rfl
    have hfz8_0 := blk_frozen BK117.out 0
    have hfz8_1 := blk_frozen BK117.out 1
    have hfz8_2 := blk_frozen BK117.out 2
    have hfz8_3 := blk_frozen BK117.out 3
    have hfz8_4 := blk_frozen BK117.out 4
    have hfz8_5 := blk_frozen BK117.out 5
    go_wp2
    go_meet
    case rel => exact ⟨_, ((a0_4 != 0)), (by first | rfl | (simp; done) | (simp [*]; done) | (simp [pw_isEmpty]; done)), H', ⟨by first | omega | exact Nat.le_refl _⟩, ⟨bq_ BK117⟩, ⟨be1_ HB GE117⟩⟩
   ·rw [if_neg c7] at H
    have c7b0 : (a0_3 == 0) = false := beq_eq_false_iff_ne.mpr c7
    have c7b1 : (a0_3 != 0) = true := bne_iff_ne.mpr c7
    have H' := Aside0.mk H
    clear H
    have hcz9_0 : w4.cell? ⟨gb117, 0, none⟩ = some (.int .i64 a0_0) := (blk_cell BK117.out 0).trans rfl
    have hcz9_1 : w4.cell? ⟨gb117, 1, none⟩ = some (.string a0_1) := (blk_cell BK117.out 1).trans rfl
    have hcz9_2 : w4.cell? ⟨gb117, 2, none⟩ = some (.slice A0_2 l0_2.length c0_2) := (blk_cell BK117.out 2).trans rfl
    have hcz9_3 : w4.cell? ⟨gb117, 3, none⟩ = some (.int .i64 a0_3) := (blk_cell BK117.out 3).trans rfl
    have hcz9_4 : w4.cell? ⟨gb117, 4, none⟩ = some (.int .i64 a0_4) := (blk_cell BK117.out 4).trans rfl
    have hcz9_5 : w4.cell? ⟨gb117, 5, none⟩ = some (.slice A0_5 l0_5.length c0_5) := (blk_cell BK117.out 5).trans rfl
    have hfz9_0 := blk_frozen BK117.out 0
    have hfz9_1 := blk_frozen BK117.out 1
    have hfz9_2 := blk_frozen BK117.out 2
    have hfz9_3 := blk_frozen BK117.out 3
    have hfz9_4 := blk_frozen BK117.out 4
    have hfz9_5 := blk_frozen BK117.out 5
    go_wp2
    go_meet
    case rel => exact ⟨_, (true), (by first | rfl | (simp; done) | (simp [*]; done) | (simp [pw_isEmpty]; done)), H', ⟨by first | omega | exact Nat.le_refl _⟩, ⟨bq_ BK117⟩, ⟨be1_ HB GE117⟩⟩
 case rest =>
  clear HC3
  try clear p2
  try clear c5
  try clear c5b0
  try clear c5b1
  try clear c7
  try clear c7b0
  try clear c7b1
  try clear hcz6_0
  try clear hcz6_1
  try clear hcz6_2
  try clear hcz6_3
  try clear hcz6_4
  try clear hcz6_5
  try clear hcz8_0
  try clear hcz8_1
  try clear hcz8_2
  try clear hcz8_3
  try clear hcz8_4
  try clear hcz8_5
  try clear hcz9_0
  try clear hcz9_1
  try clear hcz9_2
  try clear hcz9_3
  try clear hcz9_4
  try clear hcz9_5
  try clear hfz6_0
  try clear hfz6_1
  try clear hfz6_2
  try clear hfz6_3
  try clear hfz6_4
  try clear hfz6_5
  try clear hfz8_0
  try clear hfz8_1
  try clear hfz8_2
  try clear hfz8_3
  try clear hfz8_4
  try clear hfz8_5
  try clear hfz9_0
  try clear hfz9_1
  try clear hfz9_2
  try clear hfz9_3
  try clear hfz9_4
  try clear hfz9_5
  obtain ⟨kq, x19_2, rfl, HA, HJ2, BK117, HB⟩ := hcut
  cases kq with
  | zero => exact absurd HA.out (by simp [formula_fields.j0])
  | succ kj2 =>
   have H := HA.out
   clear HA
   simp only [formula_fields.j0] at H
   by_cases c10 : x19_2 = true
   ·subst c10
    have H1 : (some false) = some r := by rw [if_pos rfl] at H; exact H
    clear H
    have H := H1
    clear H1
    obtain rfl := Option.some.inj H
    go_wp2
    go_ret
    exact ⟨er_, be1_ HB GE117⟩
   ·replace c10 := Bool.eq_false_iff.mpr c10
    subst c10
    have H1 : (if a0_0 = 3 then (formula_fields.j1 kj2 a1 false a0_0 a0_1 l0_2 a0_3 a0_4 l0_5) else (formula_fields.j1 kj2 a1 (decide ((l0_2.length : Int) > 0)) a0_0 a0_1 l0_2 a0_3 a0_4 l0_5)) = some r := by rw [if_neg (show ¬ (false = true) by decide)] at H; exact H
    clear H
    have H := H1
    clear H1
    have HC11 := Aside0.mk H
    clear H
    go_upto_region 3 with (fail)
    go_cut [28] (fun v28 wc => ∃ (kq : Nat) (x28_10 : Bool), v28 = .bool x28_10 ∧ Aside0 (formula_fields.j1 kq a1 x28_10 a0_0 a0_1 l0_2 a0_3 a0_4 l0_5 = some r) ∧ Aside0 (kq ≤ kj2) ∧ Aside0 (wc.heap[gb117]? = some (.cells #[.int .i64 a0_0, .string a0_1, (.slice A0_2 l0_2.length c0_2), .int .i64 a0_3, .int .i64 a0_4, (.slice A0_5 l0_5.length c0_5)] 32 (0, 0))) ∧ Aside0 (Below w.heap.size w wc))
    case first =>
     have H := HC11.out
     clear HC11
     by_cases c12 : a0_0 = 3
     ·rw [if_pos c12] at H
      have c12b0 : (a0_0 == 3) = true := beq_iff_eq.mpr c12
      have c12b1 : (a0_0 != 3) = false := bne_eq_false_iff_eq.mpr c12
      clear c12
      (first | rw [c12b0] | (simp only [i64_w, i32_w]; rw [c12b0]) | skip)
      have H' := Aside0.mk H
      clear H
      have hcz13_0 : wc.cell? ⟨gb117, 0, none⟩ = some (.int .i64 a0_0) := (blk_cell BK117.out 0).trans rfl
      have hcz13_1 : wc.cell? ⟨gb117, 1, none⟩ = some (.string a0_1) := (blk_cell BK117.out 1).trans rfl
      have hcz13_2 : wc.cell? ⟨gb117, 2, none⟩ = some (.slice A0_2 l0_2.length c0_2) := (blk_cell BK117.out 2).trans rfl
      have hcz13_3 : wc.cell? ⟨gb117, 3, none⟩ = some (.int .i64 a0_3) := (blk_cell BK117.out 3).trans rfl
      have hcz13_4 : wc.cell? ⟨gb117, 4, none⟩ = some (.int .i64 a0_4) := (blk_cell BK117.out 4).trans rfl
      have hcz13_5 : wc.cell? ⟨gb117, 5, none⟩ = some (.slice A0_5 l0_5.length c0_5) := (blk_cell BK117.out 5).trans rfl
      have hfz13_0 := blk_frozen BK117.out 0
      have hfz13_1 := blk_frozen BK117.out 1
      have hfz13_2 := blk_frozen BK117.out 2
      have hfz13_3 := blk_frozen BK117.out 3
      have hfz13_4 := blk_frozen BK117.out 4
      have hfz13_5 := blk_frozen BK117.out 5
      go_wp2
      go_meet
      case rel => exact ⟨_, (false), (by first | rfl | (simp; done) | (simp [*]; done) | (simp [pw_isEmpty]; done)), H', ⟨by have := HJ2.out; first | omega | exact Nat.le_refl _⟩, ⟨bq_ BK117⟩, ⟨be1_ HB GE117⟩⟩
     ·rw [if_neg c12] at H
      have c12b0 : (a0_0 == 3) = false := beq_eq_false_iff_ne.mpr c12
      have c12b1 : (a0_0 != 3) = true := bne_iff_ne.mpr c12
      (first | rw [c12b0] | (simp only [i64_w, i32_w]; rw [c12b0]) | skip)
      have H' := Aside0.mk H
      clear H
      have hcz14_0 : wc.cell? ⟨gb117, 0, none⟩ = some (.int .i64 a0_0) := (blk_cell BK117.out 0).trans rfl
      have hcz14_1 : wc.cell? ⟨gb117, 1, none⟩ = some (.string a0_1) := (blk_cell BK117.out 1).trans rfl
      have hcz14_2 : wc.cell? ⟨gb117, 2, none⟩ = some (.slice A0_2 l0_2.length c0_2) := (blk_cell BK117.out 2).trans rfl
      have hcz14_3 : wc.cell? ⟨gb117, 3, none⟩ = some (.int .i64 a0_3) := (blk_cell BK117.out 3).trans rfl
      have hcz14_4 : wc.cell? ⟨gb117, 4, none⟩ = some (.int .i64 a0_4) := (blk_cell BK117.out 4).trans rfl
      have hcz14_5 : wc.cell? ⟨gb117, 5, none⟩ = some (.slice A0_5 l0_5.length c0_5) := (blk_cell BK117.out 5).trans rfl
      have hfz14_0 := blk_frozen BK117.out 0
      have hfz14_1 := blk_frozen BK117.out 1
      have hfz14_2 := blk_frozen BK117.out 2
      have hfz14_3 := blk_frozen BK117.out 3
      have hfz14_4 := blk_frozen BK117.out 4
      have hfz14_5 := blk_frozen BK117.out 5
      go_wp2
      go_meet
      case rel => exact ⟨_, (decide ((l0_2.length : Int) > 0)), (by first | rfl | (simp; done) | (simp [*]; done) | (simp [pw_isEmpty]; done)), H', ⟨by have := HJ2.out; first | omega | exact Nat.le_refl _⟩, ⟨bq_ BK117⟩, ⟨be1_ HB GE117⟩⟩
    case rest =>
     clear HC11
     try clear c1
     try clear p2
     try clear c5
     try clear c5b0
     try clear c5b1
     try clear c7
     try clear c7b0
     try clear c7b1
     try clear c10
     try clear c12
     try clear c12b0
     try clear c12b1
     try clear hcz13_0
     try clear hcz13_1
     try clear hcz13_2
     try clear hcz13_3
     try clear hcz13_4
     try clear hcz13_5
     try clear hcz14_0
     try clear hcz14_1
     try clear hcz14_2
     try clear hcz14_3
     try clear hcz14_4
     try clear hcz14_5
     try clear hcz6_0
     try clear hcz6_1
     try clear hcz6_2
     try clear hcz6_3
     try clear hcz6_4
     try clear hcz6_5
     try clear hcz8_0
     try clear hcz8_1
     try clear hcz8_2
     try clear hcz8_3
     try clear hcz8_4
     try clear hcz8_5
     try clear hcz9_0
     try clear hcz9_1
     try clear hcz9_2
     try clear hcz9_3
     try clear hcz9_4
     try clear hcz9_5
     try clear hfz13_0
     try clear hfz13_1
     try clear hfz13_2
     try clear hfz13_3
     try clear hfz13_4
     try clear hfz13_5
     try clear hfz14_0
     try clear hfz14_1
     try clear hfz14_2
     try clear hfz14_3
     try clear hfz14_4
     try clear hfz14_5
     try clear hfz6_0
     try clear hfz6_1
     try clear hfz6_2
     try clear hfz6_3
     try clear hfz6_4
     try clear hfz6_5
     try clear hfz8_0
     try clear hfz8_1
     try clear hfz8_2
     try clear hfz8_3
     try clear hfz8_4
     try clear hfz8_5
     try clear hfz9_0
     try clear hfz9_1
     try clear hfz9_2
     try clear hfz9_3
     try clear hfz9_4
     try clear hfz9_5
     try clear p2
     obtain ⟨kq, x28_10, rfl, HA, HJ10, BK117, HB⟩ := hcut
     cases kq with
     | zero => exact absurd HA.out (by simp [formula_fields.j1])
     | succ kj10 =>
      have H := HA.out
      clear HA
      simp only [formula_fields.j1] at H
      by_cases c15 : x28_10 = true
      ·subst c15
       have H1 : (some false) = some r := by rw [if_pos rfl] at H; exact H
       clear H
       have H := H1
       clear H1
       obtain rfl := Option.some.inj H
       go_wp2
       go_ret
       exact ⟨er_, be1_ HB GE117⟩
      ·replace c15 := Bool.eq_false_iff.mpr c15
       subst c15
       have H1 : (if a0_0 = 3 then (formula_fields.j2 kj10 a1 false a0_0 a0_1 l0_2 a0_3 a0_4 l0_5) else ((formula_binds.f a0_0).bind fun t118 => (if t118 = true then (formula_fields.j2 kj10 a1 false a0_0 a0_1 l0_2 a0_3 a0_4 l0_5) else (formula_fields.j2 kj10 a1 (a0_1.toList != ([] : List UInt8)) a0_0 a0_1 l0_2 a0_3 a0_4 l0_5)))) = some r := by rw [if_neg (show ¬ (false = true) by decide)] at H; exact H
       clear H
       have H := H1
       clear H1
       have HC16 := Aside0.mk H
       clear H
       go_upto_region 5 with (fail)
       go_cut [42] (fun v42 wc => ∃ (kq : Nat) (x42_15 : Bool), v42 = .bool x42_15 ∧ Aside0 (formula_fields.j2 kq a1 x42_15 a0_0 a0_1 l0_2 a0_3 a0_4 l0_5 = some r) ∧ Aside0 (kq ≤ kj10) ∧ Aside0 (wc.heap[gb117]? = some (.cells #[.int .i64 a0_0, .string a0_1, (.slice A0_2 l0_2.length c0_2), .int .i64 a0_3, .int .i64 a0_4, (.slice A0_5 l0_5.length c0_5)] 32 (0, 0))) ∧ Aside0 (Below w.heap.size w wc))
       case first =>
        have H := HC16.out
        clear HC16
        by_cases c17 : a0_0 = 3
        ·rw [if_pos c17] at H
         have c17b0 : (a0_0 == 3) = true := beq_iff_eq.mpr c17
         have c17b1 : (a0_0 != 3) = false := bne_eq_false_iff_eq.mpr c17
         clear c17
         (first | rw [c17b0] | (simp only [i64_w, i32_w]; rw [c17b0]) | skip)
         have H' := Aside0.mk H
         clear H
         have hcz18_0 : wc.cell? ⟨gb117, 0, none⟩ = some (.int .i64 a0_0) := (blk_cell BK117.out 0).trans rfl
         have hcz18_1 : wc.cell? ⟨gb117, 1, none⟩ = some (.string a0_1) := (blk_cell BK117.out 1).trans rfl
         have hcz18_2 : wc.cell? ⟨gb117, 2, none⟩ = some (.slice A0_2 l0_2.length c0_2) := (blk_cell BK117.out 2).trans rfl
         have hcz18_3 : wc.cell? ⟨gb117, 3, none⟩ = some (.int .i64 a0_3) := (blk_cell BK117.out 3).trans rfl
         have hcz18_4 : wc.cell? ⟨gb117, 4, none⟩ = some (.int .i64 a0_4) := (blk_cell BK117.out 4).trans rfl
         have hcz18_5 : wc.cell? ⟨gb117, 5, none⟩ = some (.slice A0_5 l0_5.length c0_5) := (blk_cell BK117.out 5).trans rfl
         have hfz18_0 := blk_frozen BK117.out 0
         have hfz18_1 := blk_frozen BK117.out 1
         have hfz18_2 := blk_frozen BK117.out 2
         have hfz18_3 := blk_frozen BK117.out 3
         have hfz18_4 := blk_frozen BK117.out 4
         have hfz18_5 := blk_frozen BK117.out 5
         go_wp2
         go_meet
         case rel => exact ⟨_, (false), (by first | rfl | (simp; done) | (simp [*]; done) | (simp [pw_isEmpty]; done)), H', ⟨by have := HJ2.out; have := HJ10.out; first | omega | exact Nat.le_refl _⟩, ⟨bq_ BK117⟩, ⟨be1_ HB GE117⟩⟩
        ·rw [if_neg c17] at H
         have c17b0 : (a0_0 == 3) = false := beq_eq_false_iff_ne.mpr c17
         have c17b1 : (a0_0 != 3) = true := bne_iff_ne.mpr c17
         (first | rw [c17b0] | (simp only [i64_w, i32_w]; rw [c17b0]) | skip)
         replace H := Option.bind_eq_some_iff.mp H
         obtain ⟨t118, A190, H⟩ := H
         replace H : (if t118 = true then (formula_fields.j2 kj10 a1 false a0_0 a0_1 l0_2 a0_3 a0_4 l0_5) else (formula_fields.j2 kj10 a1 (a0_1.toList != ([] : List UInt8)) a0_0 a0_1 l0_2 a0_3 a0_4 l0_5)) = some r := H
         have A19 := Aside0.mk A190
         clear A190
         by_cases c20 : t118 = true
         ·subst c20
          have H1 : (formula_fields.j2 kj10 a1 false a0_0 a0_1 l0_2 a0_3 a0_4 l0_5) = some r := by rw [if_pos rfl] at H; exact H
          clear H
          have H := H1
          clear H1
          have H' := Aside0.mk H
          clear H
          have hcz21_0 : wc.cell? ⟨gb117, 0, none⟩ = some (.int .i64 a0_0) := (blk_cell BK117.out 0).trans rfl
          have hcz21_1 : wc.cell? ⟨gb117, 1, none⟩ = some (.string a0_1) := (blk_cell BK117.out 1).trans rfl
          have hcz21_2 : wc.cell? ⟨gb117, 2, none⟩ = some (.slice A0_2 l0_2.length c0_2) := (blk_cell BK117.out 2).trans rfl
          have hcz21_3 : wc.cell? ⟨gb117, 3, none⟩ = some (.int .i64 a0_3) := (blk_cell BK117.out 3).trans rfl
          have hcz21_4 : wc.cell? ⟨gb117, 4, none⟩ = some (.int .i64 a0_4) := (blk_cell BK117.out 4).trans rfl
          have hcz21_5 : wc.cell? ⟨gb117, 5, none⟩ = some (.slice A0_5 l0_5.length c0_5) := (blk_cell BK117.out 5).trans rfl
          have hfz21_0 := blk_frozen BK117.out 0
          have hfz21_1 := blk_frozen BK117.out 1
          have hfz21_2 := blk_frozen BK117.out 2
          have hfz21_3 := blk_frozen BK117.out 3
          have hfz21_4 := blk_frozen BK117.out 4
          have hfz21_5 := blk_frozen BK117.out 5
          go_wp2_with (first | (go_at_call 75; (with_reducible refine (formula_binds.calls a0_0 true _ A19.out).mono ?_); rintro e w' ⟨rfl, ⟨nd, rfl⟩⟩))
          go_meet
          case rel => exact ⟨_, (false), (by first | rfl | (simp; done) | (simp [*]; done) | (simp [pw_isEmpty]; done)), H', ⟨by have := HJ2.out; have := HJ10.out; first | omega | exact Nat.le_refl _⟩, ⟨bq_ BK117⟩, ⟨be1_ HB GE117⟩⟩
         ·replace c20 := Bool.eq_false_iff.mpr c20
          subst c20
          have H1 : (formula_fields.j2 kj10 a1 (a0_1.toList != ([] : List UInt8)) a0_0 a0_1 l0_2 a0_3 a0_4 l0_5) = some r := by rw [if_neg (show ¬ (false = true) by decide)] at H; exact H
          clear H
          have H := H1
          clear H1
          have H' := Aside0.mk H
          clear H
          have hcz22_0 : wc.cell? ⟨gb117, 0, none⟩ = some (.int .i64 a0_0) := (blk_cell BK117.out 0).trans rfl
          have hcz22_1 : wc.cell? ⟨gb117, 1, none⟩ = some (.string a0_1) := (blk_cell BK117.out 1).trans rfl
          have hcz22_2 : wc.cell? ⟨gb117, 2, none⟩ = some (.slice A0_2 l0_2.length c0_2) := (blk_cell BK117.out 2).trans rfl
          have hcz22_3 : wc.cell? ⟨gb117, 3, none⟩ = some (.int .i64 a0_3) := (blk_cell BK117.out 3).trans rfl
          have hcz22_4 : wc.cell? ⟨gb117, 4, none⟩ = some (.int .i64 a0_4) := (blk_cell BK117.out 4).trans rfl
          have hcz22_5 : wc.cell? ⟨gb117, 5, none⟩ = some (.slice A0_5 l0_5.length c0_5) := (blk_cell BK117.out 5).trans rfl
          have hfz22_0 := blk_frozen BK117.out 0
          have hfz22_1 := blk_frozen BK117.out 1
          have hfz22_2 := blk_frozen BK117.out 2
          have hfz22_3 := blk_frozen BK117.out 3
          have hfz22_4 := blk_frozen BK117.out 4
          have hfz22_5 := blk_frozen BK117.out 5
          go_wp2_with (first | (go_at_call 75; (with_reducible refine (formula_binds.calls a0_0 false _ A19.out).mono ?_); rintro e w' ⟨rfl, ⟨nd, rfl⟩⟩))
          go_meet
          case rel => exact ⟨_, ((a0_1.toList != ([] : List UInt8))), (by first | rfl | (simp; done) | (simp [*]; done) | (simp [pw_isEmpty]; done)), H', ⟨by have := HJ2.out; have := HJ10.out; first | omega | exact Nat.le_refl _⟩, ⟨bq_ BK117⟩, ⟨be1_ HB GE117⟩⟩
       case rest =>
        clear HC16
        try clear c1
        try clear c2
        try clear p2
        try clear c5
        try clear c5b0
        try clear c5b1
        try clear c7
        try clear c7b0
        try clear c7b1
        try clear c10
        try clear c12
        try clear c12b0
        try clear c12b1
        try clear c15
        try clear c17
        try clear c17b0
        try clear c17b1
        try clear c20
        try clear hcz13_0
        try clear hcz13_1
        try clear hcz13_2
        try clear hcz13_3
        try clear hcz13_4
        try clear hcz13_5
        try clear hcz14_0
        try clear hcz14_1
        try clear hcz14_2
        try clear hcz14_3
        try clear hcz14_4
        try clear hcz14_5
        try clear hcz18_0
        try clear hcz18_1
        try clear hcz18_2
        try clear hcz18_3
        try clear hcz18_4
        try clear hcz18_5
        try clear hcz21_0
        try clear hcz21_1
        try clear hcz21_2
        try clear hcz21_3
        try clear hcz21_4
        try clear hcz21_5
        try clear hcz22_0
        try clear hcz22_1
        try clear hcz22_2
        try clear hcz22_3
        try clear hcz22_4
        try clear hcz22_5
        try clear hcz6_0
        try clear hcz6_1
        try clear hcz6_2
        try clear hcz6_3
        try clear hcz6_4
        try clear hcz6_5
        try clear hcz8_0
        try clear hcz8_1
        try clear hcz8_2
        try clear hcz8_3
        try clear hcz8_4
        try clear hcz8_5
        try clear hcz9_0
        try clear hcz9_1
        try clear hcz9_2
        try clear hcz9_3
        try clear hcz9_4
        try clear hcz9_5
        try clear hfz13_0
        try clear hfz13_1
        try clear hfz13_2
        try clear hfz13_3
        try clear hfz13_4
        try clear hfz13_5
        try clear hfz14_0
        try clear hfz14_1
        try clear hfz14_2
        try clear hfz14_3
        try clear hfz14_4
        try clear hfz14_5
        try clear hfz18_0
        try clear hfz18_1
        try clear hfz18_2
        try clear hfz18_3
        try clear hfz18_4
        try clear hfz18_5
        try clear hfz21_0
        try clear hfz21_1
        try clear hfz21_2
        try clear hfz21_3
        try clear hfz21_4
        try clear hfz21_5
        try clear hfz22_0
        try clear hfz22_1
        try clear hfz22_2
        try clear hfz22_3
        try clear hfz22_4
        try clear hfz22_5
        try clear hfz6_0
        try clear hfz6_1
        try clear hfz6_2
        try clear hfz6_3
        try clear hfz6_4
        try clear hfz6_5
        try clear hfz8_0
        try clear hfz8_1
        try clear hfz8_2
        try clear hfz8_3
        try clear hfz8_4
        try clear hfz8_5
        try clear hfz9_0
        try clear hfz9_1
        try clear hfz9_2
        try clear hfz9_3
        try clear hfz9_4
        try clear hfz9_5
        try clear p2
        obtain ⟨kq, x42_15, rfl, HA, HJ15, BK117, HB⟩ := hcut
        cases kq with
        | zero => exact absurd HA.out (by simp [formula_fields.j2])
        | succ kj15 =>
         have H := HA.out
         clear HA
         simp only [formula_fields.j2] at H
         by_cases c23 : x42_15 = true
         ·subst c23
          have H1 : (some false) = some r := by rw [if_pos rfl] at H; exact H
          clear H
          have H := H1
          clear H1
          obtain rfl := Option.some.inj H
          go_wp2
          go_ret
          exact ⟨er_, be1_ HB GE117⟩
         ·replace c23 := Bool.eq_false_iff.mpr c23
          subst c23
          have H1 : (if a0_0 = 1 then (formula_fields.j3 kj15 a1 a0_0 (a0_0 == 1) a0_0 a0_1 l0_2 a0_3 a0_4 l0_5) else (formula_fields.j3 kj15 a1 a0_0 (a0_0 == 2) a0_0 a0_1 l0_2 a0_3 a0_4 l0_5)) = some r := by rw [if_neg (show ¬ (false = true) by decide)] at H; exact H
          clear H
          have H := H1
          clear H1
          have HC24 := Aside0.mk H
          clear H
          have hcz25_0 : wc.cell? ⟨gb117, 0, none⟩ = some (.int .i64 a0_0) := (blk_cell BK117.out 0).trans rfl
          have hcz25_1 : wc.cell? ⟨gb117, 1, none⟩ = some (.string a0_1) := (blk_cell BK117.out 1).trans rfl
          have hcz25_2 : wc.cell? ⟨gb117, 2, none⟩ = some (.slice A0_2 l0_2.length c0_2) := (blk_cell BK117.out 2).trans rfl
          have hcz25_3 : wc.cell? ⟨gb117, 3, none⟩ = some (.int .i64 a0_3) := (blk_cell BK117.out 3).trans rfl
          have hcz25_4 : wc.cell? ⟨gb117, 4, none⟩ = some (.int .i64 a0_4) := (blk_cell BK117.out 4).trans rfl
          have hcz25_5 : wc.cell? ⟨gb117, 5, none⟩ = some (.slice A0_5 l0_5.length c0_5) := (blk_cell BK117.out 5).trans rfl
          have hfz25_0 := blk_frozen BK117.out 0
          have hfz25_1 := blk_frozen BK117.out 1
          have hfz25_2 := blk_frozen BK117.out 2
          have hfz25_3 := blk_frozen BK117.out 3
          have hfz25_4 := blk_frozen BK117.out 4
          have hfz25_5 := blk_frozen BK117.out 5
          go_upto_if 45 with (fail)
          go_cut [45] (fun v45 wc => ∃ (kq : Nat) (x45_23 : Bool), v45 = .bool x45_23 ∧ Aside0 (formula_fields.j3 kq a1 a0_0 x45_23 a0_0 a0_1 l0_2 a0_3 a0_4 l0_5 = some r) ∧ Aside0 (kq ≤ kj15) ∧ Aside0 (wc.heap[gb117]? = some (.cells #[.int .i64 a0_0, .string a0_1, (.slice A0_2 l0_2.length c0_2), .int .i64 a0_3, .int .i64 a0_4, (.slice A0_5 l0_5.length c0_5)] 32 (0, 0))) ∧ Aside0 (Below w.heap.size w wc))
          case first =>
           have H := HC24.out
           clear HC24
           by_cases c26 : a0_0 = 1
           ·rw [if_pos c26] at H
            have c26b0 : (a0_0 == 1) = true := beq_iff_eq.mpr c26
            have c26b1 : (a0_0 != 1) = false := bne_eq_false_iff_eq.mpr c26
            clear c26
            (first | rw [c26b0] | (simp only [i64_w, i32_w]; rw [c26b0]) | skip)
            have H' := Aside0.mk H
            clear H
            go_wp2
            go_meet
            case rel => exact ⟨_, ((a0_0 == 1)), (by first | rfl | (simp; done) | (simp [*]; done) | (simp [pw_isEmpty]; done)), H', ⟨by have := HJ2.out; have := HJ10.out; have := HJ15.out; first | omega | exact Nat.le_refl _⟩, ⟨bq_ BK117⟩, ⟨be1_ HB GE117⟩⟩
           ·rw [if_neg c26] at H
            have c26b0 : (a0_0 == 1) = false := beq_eq_false_iff_ne.mpr c26
            have c26b1 : (a0_0 != 1) = true := bne_iff_ne.mpr c26
            (first | rw [c26b0] | (simp only [i64_w, i32_w]; rw [c26b0]) | skip)
            have H' := Aside0.mk H
            clear H
            go_wp2
            go_meet
            case rel => exact ⟨_, ((a0_0 == 2)), (by first | rfl | (simp; done) | (simp [*]; done) | (simp [pw_isEmpty]; done)), H', ⟨by have := HJ2.out; have := HJ10.out; have := HJ15.out; first | omega | exact Nat.le_refl _⟩, ⟨bq_ BK117⟩, ⟨be1_ HB GE117⟩⟩
          case rest =>
           clear HC24
           try clear c1
           try clear c2
           try clear p2
           try clear c5
           try clear c5b0
           try clear c5b1
           try clear c7
           try clear c7b0
           try clear c7b1
           try clear c10
           try clear c12
           try clear c12b0
           try clear c12b1
           try clear c15
           try clear c17
           try clear c17b0
           try clear c17b1
           try clear c20
           try clear c23
           try clear c26
           try clear c26b0
           try clear c26b1
           try clear hcz13_0
           try clear hcz13_1
           try clear hcz13_2
           try clear hcz13_3
           try clear hcz13_4
           try clear hcz13_5
           try clear hcz14_0
           try clear hcz14_1
           try clear hcz14_2
           try clear hcz14_3
           try clear hcz14_4
           try clear hcz14_5
           try clear hcz18_0
           try clear hcz18_1
           try clear hcz18_2
           try clear hcz18_3
           try clear hcz18_4
           try clear hcz18_5
           try clear hcz21_0
           try clear hcz21_1
           try clear hcz21_2
           try clear hcz21_3
           try clear hcz21_4
           try clear hcz21_5
           try clear hcz22_0
           try clear hcz22_1
           try clear hcz22_2
           try clear hcz22_3
           try clear hcz22_4
           try clear hcz22_5
           try clear hcz25_0
           try clear hcz25_1
           try clear hcz25_2
           try clear hcz25_3
           try clear hcz25_4
           try clear hcz25_5
           try clear hcz6_0
           try clear hcz6_1
           try clear hcz6_2
           try clear hcz6_3
           try clear hcz6_4
           try clear hcz6_5
           try clear hcz8_0
           try clear hcz8_1
           try clear hcz8_2
           try clear hcz8_3
           try clear hcz8_4
           try clear hcz8_5
           try clear hcz9_0
           try clear hcz9_1
           try clear hcz9_2
           try clear hcz9_3
           try clear hcz9_4
           try clear hcz9_5
           try clear hfz13_0
           try clear hfz13_1
           try clear hfz13_2
           try clear hfz13_3
           try clear hfz13_4
           try clear hfz13_5
           try clear hfz14_0
           try clear hfz14_1
           try clear hfz14_2
           try clear hfz14_3
           try clear hfz14_4
           try clear hfz14_5
           try clear hfz18_0
           try clear hfz18_1
           try clear hfz18_2
           try clear hfz18_3
           try clear hfz18_4
           try clear hfz18_5
           try clear hfz21_0
           try clear hfz21_1
           try clear hfz21_2
           try clear hfz21_3
           try clear hfz21_4
           try clear hfz21_5
           try clear hfz22_0
           try clear hfz22_1
           try clear hfz22_2
           try clear hfz22_3
           try clear hfz22_4
           try clear hfz22_5
           try clear hfz25_0
           try clear hfz25_1
           try clear hfz25_2
           try clear hfz25_3
           try clear hfz25_4
           try clear hfz25_5
           try clear hfz6_0
           try clear hfz6_1
           try clear hfz6_2
           try clear hfz6_3
           try clear hfz6_4
           try clear hfz6_5
           try clear hfz8_0
           try clear hfz8_1
           try clear hfz8_2
           try clear hfz8_3
           try clear hfz8_4
           try clear hfz8_5
           try clear hfz9_0
           try clear hfz9_1
           try clear hfz9_2
           try clear hfz9_3
           try clear hfz9_4
           try clear hfz9_5
           try clear p2
           obtain ⟨kq, x45_23, rfl, HA, HJ23, BK117, HB⟩ := hcut
           cases kq with
           | zero => exact absurd HA.out (by simp [formula_fields.j3])
           | succ kj23 =>
            have H := HA.out
            clear HA
            simp only [formula_fields.j3] at H
            by_cases c27 : x45_23 = true
            ·subst c27
             have H1 : (some ((l0_5.length : Int) == 0)) = some r := by rw [if_pos rfl] at H; exact H
             clear H
             have H := H1
             clear H1
             obtain rfl := Option.some.inj H
             have hcz28_0 : wc.cell? ⟨gb117, 0, none⟩ = some (.int .i64 a0_0) := (blk_cell BK117.out 0).trans rfl
             have hcz28_1 : wc.cell? ⟨gb117, 1, none⟩ = some (.string a0_1) := (blk_cell BK117.out 1).trans rfl
             have hcz28_2 : wc.cell? ⟨gb117, 2, none⟩ = some (.slice A0_2 l0_2.length c0_2) := (blk_cell BK117.out 2).trans rfl
             have hcz28_3 : wc.cell? ⟨gb117, 3, none⟩ = some (.int .i64 a0_3) := (blk_cell BK117.out 3).trans rfl
             have hcz28_4 : wc.cell? ⟨gb117, 4, none⟩ = some (.int .i64 a0_4) := (blk_cell BK117.out 4).trans rfl
             have hcz28_5 : wc.cell? ⟨gb117, 5, none⟩ = some (.slice A0_5 l0_5.length c0_5) := (blk_cell BK117.out 5).trans rfl
             have hfz28_0 := blk_frozen BK117.out 0
             have hfz28_1 := blk_frozen BK117.out 1
             have hfz28_2 := blk_frozen BK117.out 2
             have hfz28_3 := blk_frozen BK117.out 3
             have hfz28_4 := blk_frozen BK117.out 4
             have hfz28_5 := blk_frozen BK117.out 5
             go_wp2
             go_ret
             exact ⟨er_, be1_ HB GE117⟩
            ·replace c27 := Bool.eq_false_iff.mpr c27
             subst c27
             have H1 : (if a0_0 = 3 then (formula_fields.l0 kj23 a1 l0_2 (l0_2.length : Int) 0 a0_0 a0_1 l0_2 a0_3 a0_4 l0_5) else (if a0_0 = 4 then (formula_fields.j5 kj23 a0_0 (a0_0 == 4) a0_0 a0_1 l0_2 a0_3 a0_4 l0_5) else (if a0_0 = 11 then (formula_fields.j5 kj23 a0_0 (a0_0 == 11) a0_0 a0_1 l0_2 a0_3 a0_4 l0_5) else (formula_fields.j5 kj23 a0_0 (a0_0 == 12) a0_0 a0_1 l0_2 a0_3 a0_4 l0_5)))) = some r := by rw [if_neg (show ¬ (false = true) by decide)] at H; exact H
             clear H
             have H := H1
             clear H1
             by_cases c29 : a0_0 = 3
             ·rw [if_pos c29] at H
              have c29b0 : (a0_0 == 3) = true := beq_iff_eq.mpr c29
              have c29b1 : (a0_0 != 3) = false := bne_eq_false_iff_eq.mpr c29
              clear c29
              have H' := Aside0.mk H
              clear H
              have hcz30_0 : wc.cell? ⟨gb117, 0, none⟩ = some (.int .i64 a0_0) := (blk_cell BK117.out 0).trans rfl
              have hcz30_1 : wc.cell? ⟨gb117, 1, none⟩ = some (.string a0_1) := (blk_cell BK117.out 1).trans rfl
              have hcz30_2 : wc.cell? ⟨gb117, 2, none⟩ = some (.slice A0_2 l0_2.length c0_2) := (blk_cell BK117.out 2).trans rfl
              have hcz30_3 : wc.cell? ⟨gb117, 3, none⟩ = some (.int .i64 a0_3) := (blk_cell BK117.out 3).trans rfl
              have hcz30_4 : wc.cell? ⟨gb117, 4, none⟩ = some (.int .i64 a0_4) := (blk_cell BK117.out 4).trans rfl
              have hcz30_5 : wc.cell? ⟨gb117, 5, none⟩ = some (.slice A0_5 l0_5.length c0_5) := (blk_cell BK117.out 5).trans rfl
              have hfz30_0 := blk_frozen BK117.out 0
              have hfz30_1 := blk_frozen BK117.out 1
              have hfz30_2 := blk_frozen BK117.out 2
              have hfz30_3 := blk_frozen BK117.out 3
              have hfz30_4 := blk_frozen BK117.out 4
              have hfz30_5 := blk_frozen BK117.out 5
              go_wp2
              go_loopg [57] kj23 (fun kq v57 w' => ∃ (x57_5 : Int), v57 = .int .i64 x57_5 ∧ Aside0 (formula_fields.l0 kq a1 l0_2 (l0_2.length : Int) x57_5 a0_0 a0_1 l0_2 a0_3 a0_4 l0_5 = some r) ∧ Aside0 (kq ≤ kj23) ∧ Aside0 (w'.heap[gb117]? = some (.cells #[.int .i64 a0_0, .string a0_1, (.slice A0_2 l0_2.length c0_2), .int .i64 a0_3, .int .i64 a0_4, (.slice A0_5 l0_5.length c0_5)] 32 (0, 0))) ∧ Aside0 (Below w.heap.size w w'))
              case atStart => exact ⟨(0), (by first | rfl | (simp; done) | (simp [*]; done) | (simp [pw_isEmpty]; done)), H', ⟨Nat.le_refl _⟩, ⟨bq_ BK117⟩, ⟨be1_ HB GE117⟩⟩
              case round =>
               clear H'
               try clear c1
               try clear c2
               try clear p2
               try clear c5
               try clear c5b0
               try clear c5b1
               try clear c7
               try clear c7b0
               try clear c7b1
               try clear c10
               try clear c12
               try clear c12b0
               try clear c12b1
               try clear c15
               try clear c17
               try clear c17b0
               try clear c17b1
               try clear c20
               try clear c23
               try clear c26
               try clear c26b0
               try clear c26b1
               try clear c27
               try clear c29
               try clear c29b0
               try clear c29b1
               try clear hcz13_0
               try clear hcz13_1
               try clear hcz13_2
               try clear hcz13_3
               try clear hcz13_4
               try clear hcz13_5
               try clear hcz14_0
               try clear hcz14_1
               try clear hcz14_2
               try clear hcz14_3
               try clear hcz14_4
               try clear hcz14_5
               try clear hcz18_0
               try clear hcz18_1
               try clear hcz18_2
               try clear hcz18_3
               try clear hcz18_4
               try clear hcz18_5
               try clear hcz21_0
               try clear hcz21_1
               try clear hcz21_2
               try clear hcz21_3
               try clear hcz21_4
               try clear hcz21_5
               try clear hcz22_0
               try clear hcz22_1
               try clear hcz22_2
               try clear hcz22_3
               try clear hcz22_4
               try clear hcz22_5
               try clear hcz25_0
               try clear hcz25_1
               try clear hcz25_2
               try clear hcz25_3
               try clear hcz25_4
               try clear hcz25_5
               try clear hcz28_0
               try clear hcz28_1
               try clear hcz28_2
               try clear hcz28_3
               try clear hcz28_4
               try clear hcz28_5
               try clear hcz30_0
               try clear hcz30_1
               try clear hcz30_2
               try clear hcz30_3
               try clear hcz30_4
               try clear hcz30_5
               try clear hcz6_0
               try clear hcz6_1
               try clear hcz6_2
               try clear hcz6_3
               try clear hcz6_4
               try clear hcz6_5
               try clear hcz8_0
               try clear hcz8_1
               try clear hcz8_2
               try clear hcz8_3
               try clear hcz8_4
               try clear hcz8_5
               try clear hcz9_0
               try clear hcz9_1
               try clear hcz9_2
               try clear hcz9_3
               try clear hcz9_4
               try clear hcz9_5
               try clear hfz13_0
               try clear hfz13_1
               try clear hfz13_2
               try clear hfz13_3
               try clear hfz13_4
               try clear hfz13_5
               try clear hfz14_0
               try clear hfz14_1
               try clear hfz14_2
               try clear hfz14_3
               try clear hfz14_4
               try clear hfz14_5
               try clear hfz18_0
               try clear hfz18_1
               try clear hfz18_2
               try clear hfz18_3
               try clear hfz18_4
               try clear hfz18_5
               try clear hfz21_0
               try clear hfz21_1
               try clear hfz21_2
               try clear hfz21_3
               try clear hfz21_4
               try clear hfz21_5
               try clear hfz22_0
               try clear hfz22_1
               try clear hfz22_2
               try clear hfz22_3
               try clear hfz22_4
               try clear hfz22_5
               try clear hfz25_0
               try clear hfz25_1
               try clear hfz25_2
               try clear hfz25_3
               try clear hfz25_4
               try clear hfz25_5
               try clear hfz28_0
               try clear hfz28_1
               try clear hfz28_2
               try clear hfz28_3
               try clear hfz28_4
               try clear hfz28_5
               try clear hfz30_0
               try clear hfz30_1
               try clear hfz30_2
               try clear hfz30_3
               try clear hfz30_4
               try clear hfz30_5
               try clear hfz6_0
               try clear hfz6_1
               try clear hfz6_2
               try clear hfz6_3
               try clear hfz6_4
               try clear hfz6_5
               try clear hfz8_0
               try clear hfz8_1
               try clear hfz8_2
               try clear hfz8_3
               try clear hfz8_4
               try clear hfz8_5
               try clear hfz9_0
               try clear hfz9_1
               try clear hfz9_2
               try clear hfz9_3
               try clear hfz9_4
               try clear hfz9_5
               try clear p2
               obtain ⟨x57_5, rfl, HA, HK5, BK117, HB⟩ := hrel
               cases gk with
               | zero => exact absurd HA.out (by simp [formula_fields.l0])
               | succ k5 =>
                have H := HA.out
                clear HA
                simp only [formula_fields.l0] at H
                by_cases c31 : x57_5 < (l0_2.length : Int)
                ·rw [if_pos c31] at H
                 have c31b0 : decide (x57_5 < (l0_2.length : Int)) = true := decide_eq_true c31
                 clear c31
                 by_cases c32 : 0 ≤ x57_5
                 ·rw [if_pos c32] at H
                  have c32b0 : decide (0 ≤ x57_5) = true := decide_eq_true c32
                  clear c32
                  by_cases c33 : x57_5 < (l0_2.length : Int)
                  ·rw [if_pos c33] at H
                   have c33b0 : decide (x57_5 < (l0_2.length : Int)) = true := decide_eq_true c33
                   clear c33
                   replace H := Option.bind_eq_some_iff.mp H
                   obtain ⟨t121, A340, H⟩ := H
                   replace H : (if t121 = true then (formula_fields.l0 k5 a1 l0_2 (l0_2.length : Int) (wrap64 (x57_5 + 1)) a0_0 a0_1 l0_2 a0_3 a0_4 l0_5) else (some false)) = some r := H
                   have A34 := Aside0.mk A340
                   clear A340
                   by_cases c35 : t121 = true
                   ·subst c35
                    have H1 : (formula_fields.l0 k5 a1 l0_2 (l0_2.length : Int) (wrap64 (x57_5 + 1)) a0_0 a0_1 l0_2 a0_3 a0_4 l0_5) = some r := by rw [if_pos rfl] at H; exact H
                    clear H
                    have H := H1
                    clear H1
                    have H' := Aside0.mk H
                    clear H
                    have p119 : 0 ≤ (x57_5 : Int) := of_decide_eq_true (by first | (with_reducible assumption) | assumption)
                    have q119 : x57_5 < (l0_2.length : Int) := of_decide_eq_true (by first | (with_reducible assumption) | assumption)
                    obtain ⟨ad119, e119, hx119_0, hx119_1, hx119_2⟩ := at_T92 HR0_2.out x57_5 p119 q119
                    cases e119
                    replace hx119_0 := (HB.out.cell (World.block_lt_of_cell? w _ hx119_0)).trans hx119_0
                    replace hx119_1 := (HB.out.cell (World.block_lt_of_cell? w _ hx119_1)).trans hx119_1
                    replace hx119_2 := (HB.out.cell (World.block_lt_of_cell? w _ hx119_2)).trans hx119_2
                    replace p119 := eq_true p119
                    replace q119 := eq_true q119
                    go_wp2_with (first | ((with_reducible refine gate_dst (N := 6) rfl ?_); (try (refine gate_guard (by rfl) ?_; dsimp only)); refine box_event ?hg (N := 6) ?hd (cs := #[.int .i64 0, .int .i64 0, .string (⟨#[]⟩ : ByteArray)]) (t := 92) ?hr ?_; (case hd => rfl); (case hg => rfl); (case hr => first | (go_simp; done) | (go_simp; rfl)); intro gb120 hg w36 hbox hb; have n0_ := Aside0.mk (blk_below (g := gb117) (o := .cells #[.int .i64 a0_0, .string a0_1, .slice (some ad119) l0_2.length c0_2, .int .i64 a0_3, .int .i64 a0_4, .slice A0_5 l0_5.length c0_5] 32 (0, 0)) (bq_ BK117) hb); have n1_ := Aside0.mk (below_step (be1_ HB GE117) hb); have n2_ := Aside0.mk (hbox); have n3_ := Aside0.mk ((by rw [hg]; exact (below_size (be1_ HB GE117)) : w.heap.size ≤ gb120)); have n4_ := Aside0.mk ((by rw [hg]; exact (below_size (be1_ HB GE117)) : w.heap.size ≤ gb120)); have n5_ := Aside0.mk ((by rw [hg]; exact Nat.ne_of_lt (blk_lt (g := gb117) (o := .cells #[.int .i64 a0_0, .string a0_1, .slice (some ad119) l0_2.length c0_2, .int .i64 a0_3, .int .i64 a0_4, .slice A0_5 l0_5.length c0_5] 32 (0, 0)) (bq_ BK117)) : gb117 ≠ gb120)); have n6_ := Aside0.mk ((by rw [hg]; exact Nat.ne_of_gt (blk_lt (g := gb117) (o := .cells #[.int .i64 a0_0, .string a0_1, .slice (some ad119) l0_2.length c0_2, .int .i64 a0_3, .int .i64 a0_4, .slice A0_5 l0_5.length c0_5] 32 (0, 0)) (bq_ BK117)) : gb120 ≠ gb117)); clear BK117; clear HB; have BK117 := n0_; have HB := n1_; have BK120 := n2_; have GW120 := n3_; have GE120 := n4_; have NB117_120 := n5_; have NB120_117 := n6_; clear n0_ n1_ n2_ n3_ n4_ n5_ n6_; clear hb hbox hg; have hnb37 := NB120_117.out; have hnc37 := NB117_120.out; have hcz38_0 : w36.cell? ⟨gb120, 0, none⟩ = some (.int .i64 0) := (blk_cell BK120.out 0).trans rfl; have hcz38_1 : w36.cell? ⟨gb120, 1, none⟩ = some (.int .i64 0) := (blk_cell BK120.out 1).trans rfl; have hcz38_2 : w36.cell? ⟨gb120, 2, none⟩ = some (.string (⟨#[]⟩ : ByteArray)) := (blk_cell BK120.out 2).trans rfl; have hfz38_0 := blk_frozen BK120.out 0; have hfz38_1 := blk_frozen BK120.out 1; have hfz38_2 := blk_frozen BK120.out 2) | ((with_reducible refine gate_callee (f := 81) rfl ?_); refine goesL_ (some 63) rfl rfl Tryd.func81 (by kernel_rfl) rfl #[.agg #[.int .i64 ((rd_T92 l0_2 x57_5).f0), .int .i64 ((rd_T92 l0_2 x57_5).f1), .string ((rd_T92 l0_2 x57_5).f2)], .int .i64 a1] rfl (by (try simp only [List.map_toArray, List.map_cons, List.map_nil]); first | done | rfl | (simp only [List.length_drop, List.length_take]; rfl)) ?_; (with_reducible refine (formula_reference.calls k5 ((rd_T92 l0_2 x57_5).f0) ((rd_T92 l0_2 x57_5).f1) ((rd_T92 l0_2 x57_5).f2) a1 true _ A34.out).mono ?_); rintro e w39 ⟨rfl, hb⟩; refine ⟨_, rfl, ?_⟩; have n0_ := Aside0.mk (blk_below (g := gb117) (o := .cells #[.int .i64 a0_0, .string a0_1, .slice (some ad119) l0_2.length c0_2, .int .i64 a0_3, .int .i64 a0_4, .slice A0_5 l0_5.length c0_5] 32 (0, 0)) (by (with_reducible repeat (first | refine blk_drewN ?_ _ | refine blk_drew ?_ | refine blk_alloc ?_ _)); refine blk_far ?_ NB117_120.out _; (with_reducible repeat (first | refine blk_drewN ?_ _ | refine blk_drew ?_ | refine blk_alloc ?_ _)); refine blk_far ?_ NB117_120.out _; (with_reducible repeat (first | refine blk_drewN ?_ _ | refine blk_drew ?_ | refine blk_alloc ?_ _)); refine blk_far ?_ NB117_120.out _; (with_reducible repeat (first | refine blk_drewN ?_ _ | refine blk_drew ?_ | refine blk_alloc ?_ _)); exact BK117.out) hb); have n1_ := Aside0.mk (blk_below (g := gb120) (o := .cells #[.int .i64 ((rd_T92 l0_2 x57_5).f0), .int .i64 ((rd_T92 l0_2 x57_5).f1), .string ((rd_T92 l0_2 x57_5).f2)] 92 (0, 0)) (by (with_reducible repeat (first | refine blk_drewN ?_ _ | refine blk_drew ?_ | refine blk_alloc ?_ _)); refine blk_put (cs := #[.int .i64 ((rd_T92 l0_2 x57_5).f0), .int .i64 ((rd_T92 l0_2 x57_5).f1), .string (⟨#[]⟩ : ByteArray)]) ?_ 2 _ rfl; (with_reducible repeat (first | refine blk_drewN ?_ _ | refine blk_drew ?_ | refine blk_alloc ?_ _)); refine blk_put (cs := #[.int .i64 ((rd_T92 l0_2 x57_5).f0), .int .i64 0, .string (⟨#[]⟩ : ByteArray)]) ?_ 1 _ rfl; (with_reducible repeat (first | refine blk_drewN ?_ _ | refine blk_drew ?_ | refine blk_alloc ?_ _)); refine blk_put (cs := #[.int .i64 0, .int .i64 0, .string (⟨#[]⟩ : ByteArray)]) ?_ 0 _ rfl; (with_reducible repeat (first | refine blk_drewN ?_ _ | refine blk_drew ?_ | refine blk_alloc ?_ _)); exact BK120.out) hb); have n2_ := Aside0.mk (below_step (be2_ HB GE117 GE120) hb); clear BK117; clear BK120; clear HB; have BK117 := n0_; have BK120 := n1_; have HB := n2_; clear n0_ n1_ n2_; (try clear hb); (try clear hb2); (try clear hk); (try clear hi)))
                    go_roundg k5
                    case measure => have := HJ2.out; have := HJ10.out; have := HJ15.out; have := HJ23.out; have := HK5.out; omega
                    case rel => exact ⟨(wrap64 (x57_5 + 1)), (by first | rfl | (simp; done) | (simp [*]; done) | (simp [pw_isEmpty]; done)), H', ⟨by have := HJ2.out; have := HJ10.out; have := HJ15.out; have := HJ23.out; have := HK5.out; omega⟩, ⟨bq_ BK117⟩, ⟨be2_ HB GE117 GE120⟩⟩
                   ·replace c35 := Bool.eq_false_iff.mpr c35
                    subst c35
                    have H1 : (some false) = some r := by rw [if_neg (show ¬ (false = true) by decide)] at H; exact H
                    clear H
                    have H := H1
                    clear H1
                    obtain rfl := Option.some.inj H
                    have p119 : 0 ≤ (x57_5 : Int) := of_decide_eq_true (by first | (with_reducible assumption) | assumption)
                    have q119 : x57_5 < (l0_2.length : Int) := of_decide_eq_true (by first | (with_reducible assumption) | assumption)
                    obtain ⟨ad119, e119, hx119_0, hx119_1, hx119_2⟩ := at_T92 HR0_2.out x57_5 p119 q119
                    cases e119
                    replace hx119_0 := (HB.out.cell (World.block_lt_of_cell? w _ hx119_0)).trans hx119_0
                    replace hx119_1 := (HB.out.cell (World.block_lt_of_cell? w _ hx119_1)).trans hx119_1
                    replace hx119_2 := (HB.out.cell (World.block_lt_of_cell? w _ hx119_2)).trans hx119_2
                    replace p119 := eq_true p119
                    replace q119 := eq_true q119
                    go_wp2_with (first | ((with_reducible refine gate_dst (N := 6) rfl ?_); (try (refine gate_guard (by rfl) ?_; dsimp only)); refine box_event ?hg (N := 6) ?hd (cs := #[.int .i64 0, .int .i64 0, .string (⟨#[]⟩ : ByteArray)]) (t := 92) ?hr ?_; (case hd => rfl); (case hg => rfl); (case hr => first | (go_simp; done) | (go_simp; rfl)); intro gb120 hg w40 hbox hb; have n0_ := Aside0.mk (blk_below (g := gb117) (o := .cells #[.int .i64 a0_0, .string a0_1, .slice (some ad119) l0_2.length c0_2, .int .i64 a0_3, .int .i64 a0_4, .slice A0_5 l0_5.length c0_5] 32 (0, 0)) (bq_ BK117) hb); have n1_ := Aside0.mk (below_step (be1_ HB GE117) hb); have n2_ := Aside0.mk (hbox); have n3_ := Aside0.mk ((by rw [hg]; exact (below_size (be1_ HB GE117)) : w.heap.size ≤ gb120)); have n4_ := Aside0.mk ((by rw [hg]; exact (below_size (be1_ HB GE117)) : w.heap.size ≤ gb120)); have n5_ := Aside0.mk ((by rw [hg]; exact Nat.ne_of_lt (blk_lt (g := gb117) (o := .cells #[.int .i64 a0_0, .string a0_1, .slice (some ad119) l0_2.length c0_2, .int .i64 a0_3, .int .i64 a0_4, .slice A0_5 l0_5.length c0_5] 32 (0, 0)) (bq_ BK117)) : gb117 ≠ gb120)); have n6_ := Aside0.mk ((by rw [hg]; exact Nat.ne_of_gt (blk_lt (g := gb117) (o := .cells #[.int .i64 a0_0, .string a0_1, .slice (some ad119) l0_2.length c0_2, .int .i64 a0_3, .int .i64 a0_4, .slice A0_5 l0_5.length c0_5] 32 (0, 0)) (bq_ BK117)) : gb120 ≠ gb117)); clear BK117; clear HB; have BK117 := n0_; have HB := n1_; have BK120 := n2_; have GW120 := n3_; have GE120 := n4_; have NB117_120 := n5_; have NB120_117 := n6_; clear n0_ n1_ n2_ n3_ n4_ n5_ n6_; clear hb hbox hg; have hnb41 := NB120_117.out; have hnc41 := NB117_120.out; have hcz42_0 : w40.cell? ⟨gb120, 0, none⟩ = some (.int .i64 0) := (blk_cell BK120.out 0).trans rfl; have hcz42_1 : w40.cell? ⟨gb120, 1, none⟩ = some (.int .i64 0) := (blk_cell BK120.out 1).trans rfl; have hcz42_2 : w40.cell? ⟨gb120, 2, none⟩ = some (.string (⟨#[]⟩ : ByteArray)) := (blk_cell BK120.out 2).trans rfl; have hfz42_0 := blk_frozen BK120.out 0; have hfz42_1 := blk_frozen BK120.out 1; have hfz42_2 := blk_frozen BK120.out 2) | ((with_reducible refine gate_callee (f := 81) rfl ?_); refine goesL_ (some 63) rfl rfl Tryd.func81 (by kernel_rfl) rfl #[.agg #[.int .i64 ((rd_T92 l0_2 x57_5).f0), .int .i64 ((rd_T92 l0_2 x57_5).f1), .string ((rd_T92 l0_2 x57_5).f2)], .int .i64 a1] rfl (by (try simp only [List.map_toArray, List.map_cons, List.map_nil]); first | done | rfl | (simp only [List.length_drop, List.length_take]; rfl)) ?_; (with_reducible refine (formula_reference.calls k5 ((rd_T92 l0_2 x57_5).f0) ((rd_T92 l0_2 x57_5).f1) ((rd_T92 l0_2 x57_5).f2) a1 false _ A34.out).mono ?_); rintro e w43 ⟨rfl, hb⟩; refine ⟨_, rfl, ?_⟩; have n0_ := Aside0.mk (blk_below (g := gb117) (o := .cells #[.int .i64 a0_0, .string a0_1, .slice (some ad119) l0_2.length c0_2, .int .i64 a0_3, .int .i64 a0_4, .slice A0_5 l0_5.length c0_5] 32 (0, 0)) (by (with_reducible repeat (first | refine blk_drewN ?_ _ | refine blk_drew ?_ | refine blk_alloc ?_ _)); refine blk_far ?_ NB117_120.out _; (with_reducible repeat (first | refine blk_drewN ?_ _ | refine blk_drew ?_ | refine blk_alloc ?_ _)); refine blk_far ?_ NB117_120.out _; (with_reducible repeat (first | refine blk_drewN ?_ _ | refine blk_drew ?_ | refine blk_alloc ?_ _)); refine blk_far ?_ NB117_120.out _; (with_reducible repeat (first | refine blk_drewN ?_ _ | refine blk_drew ?_ | refine blk_alloc ?_ _)); exact BK117.out) hb); have n1_ := Aside0.mk (blk_below (g := gb120) (o := .cells #[.int .i64 ((rd_T92 l0_2 x57_5).f0), .int .i64 ((rd_T92 l0_2 x57_5).f1), .string ((rd_T92 l0_2 x57_5).f2)] 92 (0, 0)) (by (with_reducible repeat (first | refine blk_drewN ?_ _ | refine blk_drew ?_ | refine blk_alloc ?_ _)); refine blk_put (cs := #[.int .i64 ((rd_T92 l0_2 x57_5).f0), .int .i64 ((rd_T92 l0_2 x57_5).f1), .string (⟨#[]⟩ : ByteArray)]) ?_ 2 _ rfl; (with_reducible repeat (first | refine blk_drewN ?_ _ | refine blk_drew ?_ | refine blk_alloc ?_ _)); refine blk_put (cs := #[.int .i64 ((rd_T92 l0_2 x57_5).f0), .int .i64 0, .string (⟨#[]⟩ : ByteArray)]) ?_ 1 _ rfl; (with_reducible repeat (first | refine blk_drewN ?_ _ | refine blk_drew ?_ | refine blk_alloc ?_ _)); refine blk_put (cs := #[.int .i64 0, .int .i64 0, .string (⟨#[]⟩ : ByteArray)]) ?_ 0 _ rfl; (with_reducible repeat (first | refine blk_drewN ?_ _ | refine blk_drew ?_ | refine blk_alloc ?_ _)); exact BK120.out) hb); have n2_ := Aside0.mk (below_step (be2_ HB GE117 GE120) hb); clear BK117; clear BK120; clear HB; have BK117 := n0_; have BK120 := n1_; have HB := n2_; clear n0_ n1_ n2_; (try clear hb); (try clear hb2); (try clear hk); (try clear hi)))
                    go_ret
                    exact ⟨er_, be2_ HB GE117 GE120⟩
                  ·rw [if_neg c33] at H
                   exact absurd H (by simp)
                 ·rw [if_neg c32] at H
                  exact absurd H (by simp)
                ·rw [if_neg c31] at H
                 have c31b0 : decide (x57_5 < (l0_2.length : Int)) = false := decide_eq_false c31
                 clear c31
                 by_cases c44 : (l0_5.length : Int) = 0
                 ·rw [if_pos c44] at H
                  have c44b0 : ((l0_5.length : Int) == 0) = true := beq_iff_eq.mpr c44
                  have c44b1 : ((l0_5.length : Int) != 0) = false := bne_eq_false_iff_eq.mpr c44
                  clear c44
                  by_cases c45 : (l0_2.length : Int) ≥ 1
                  ·rw [if_pos c45] at H
                   have c45b0 : decide (1 ≤ (l0_2.length : Int)) = true := decide_eq_true c45
                   have c45b1 : decide (1 ≤ l0_2.length) = true := decide_eq_true (by omega)
                   clear c45
                   by_cases c46 : (l0_2.length : Int) ≤ 3
                   ·rw [if_pos c46] at H
                    have c46b0 : decide ((l0_2.length : Int) ≤ 3) = true := decide_eq_true c46
                    have c46b1 : decide (l0_2.length ≤ 3) = true := decide_eq_true (by omega)
                    clear c46
                    replace H := Option.bind_eq_some_iff.mp H
                    obtain ⟨t122, A470, H⟩ := H
                    replace H : (some t122) = some r := H
                    have A47 := Aside0.mk A470
                    clear A470
                    obtain rfl := Option.some.inj H
                    have hcz48_0 : wr.cell? ⟨gb117, 0, none⟩ = some (.int .i64 a0_0) := (blk_cell BK117.out 0).trans rfl
                    have hcz48_1 : wr.cell? ⟨gb117, 1, none⟩ = some (.string a0_1) := (blk_cell BK117.out 1).trans rfl
                    have hcz48_2 : wr.cell? ⟨gb117, 2, none⟩ = some (.slice A0_2 l0_2.length c0_2) := (blk_cell BK117.out 2).trans rfl
                    have hcz48_3 : wr.cell? ⟨gb117, 3, none⟩ = some (.int .i64 a0_3) := (blk_cell BK117.out 3).trans rfl
                    have hcz48_4 : wr.cell? ⟨gb117, 4, none⟩ = some (.int .i64 a0_4) := (blk_cell BK117.out 4).trans rfl
                    have hcz48_5 : wr.cell? ⟨gb117, 5, none⟩ = some (.slice A0_5 l0_5.length c0_5) := (blk_cell BK117.out 5).trans rfl
                    have hfz48_0 := blk_frozen BK117.out 0
                    have hfz48_1 := blk_frozen BK117.out 1
                    have hfz48_2 := blk_frozen BK117.out 2
                    have hfz48_3 := blk_frozen BK117.out 3
                    have hfz48_4 := blk_frozen BK117.out 4
                    have hfz48_5 := blk_frozen BK117.out 5
                    go_wp2_with (first | (go_at_call 82; (with_reducible refine (formula_symbol.calls k5 a0_1 t122 _ A47.out).mono ?_); rintro e w' ⟨rfl, ⟨nd, rfl⟩⟩))
                    go_ret
                    exact ⟨er_, be1_ HB GE117⟩
                   ·rw [if_neg c46] at H
                    have c46b0 : decide ((l0_2.length : Int) ≤ 3) = false := decide_eq_false c46
                    have c46b1 : decide (l0_2.length ≤ 3) = false := decide_eq_false (by omega)
                    clear c46
                    obtain rfl := Option.some.inj H
                    have hcz49_0 : wr.cell? ⟨gb117, 0, none⟩ = some (.int .i64 a0_0) := (blk_cell BK117.out 0).trans rfl
                    have hcz49_1 : wr.cell? ⟨gb117, 1, none⟩ = some (.string a0_1) := (blk_cell BK117.out 1).trans rfl
                    have hcz49_2 : wr.cell? ⟨gb117, 2, none⟩ = some (.slice A0_2 l0_2.length c0_2) := (blk_cell BK117.out 2).trans rfl
                    have hcz49_3 : wr.cell? ⟨gb117, 3, none⟩ = some (.int .i64 a0_3) := (blk_cell BK117.out 3).trans rfl
                    have hcz49_4 : wr.cell? ⟨gb117, 4, none⟩ = some (.int .i64 a0_4) := (blk_cell BK117.out 4).trans rfl
                    have hcz49_5 : wr.cell? ⟨gb117, 5, none⟩ = some (.slice A0_5 l0_5.length c0_5) := (blk_cell BK117.out 5).trans rfl
                    have hfz49_0 := blk_frozen BK117.out 0
                    have hfz49_1 := blk_frozen BK117.out 1
                    have hfz49_2 := blk_frozen BK117.out 2
                    have hfz49_3 := blk_frozen BK117.out 3
                    have hfz49_4 := blk_frozen BK117.out 4
                    have hfz49_5 := blk_frozen BK117.out 5
                    go_wp2
                    go_ret
                    exact ⟨er_, be1_ HB GE117⟩
                  ·rw [if_neg c45] at H
                   have c45b0 : decide (1 ≤ (l0_2.length : Int)) = false := decide_eq_false c45
                   have c45b1 : decide (1 ≤ l0_2.length) = false := decide_eq_false (by omega)
                   clear c45
                   obtain rfl := Option.some.inj H
                   have hcz50_0 : wr.cell? ⟨gb117, 0, none⟩ = some (.int .i64 a0_0) := (blk_cell BK117.out 0).trans rfl
                   have hcz50_1 : wr.cell? ⟨gb117, 1, none⟩ = some (.string a0_1) := (blk_cell BK117.out 1).trans rfl
                   have hcz50_2 : wr.cell? ⟨gb117, 2, none⟩ = some (.slice A0_2 l0_2.length c0_2) := (blk_cell BK117.out 2).trans rfl
                   have hcz50_3 : wr.cell? ⟨gb117, 3, none⟩ = some (.int .i64 a0_3) := (blk_cell BK117.out 3).trans rfl
                   have hcz50_4 : wr.cell? ⟨gb117, 4, none⟩ = some (.int .i64 a0_4) := (blk_cell BK117.out 4).trans rfl
                   have hcz50_5 : wr.cell? ⟨gb117, 5, none⟩ = some (.slice A0_5 l0_5.length c0_5) := (blk_cell BK117.out 5).trans rfl
                   have hfz50_0 := blk_frozen BK117.out 0
                   have hfz50_1 := blk_frozen BK117.out 1
                   have hfz50_2 := blk_frozen BK117.out 2
                   have hfz50_3 := blk_frozen BK117.out 3
                   have hfz50_4 := blk_frozen BK117.out 4
                   have hfz50_5 := blk_frozen BK117.out 5
                   go_wp2
                   go_ret
                   exact ⟨er_, be1_ HB GE117⟩
                 ·rw [if_neg c44] at H
                  have c44b0 : ((l0_5.length : Int) == 0) = false := beq_eq_false_iff_ne.mpr c44
                  have c44b1 : ((l0_5.length : Int) != 0) = true := bne_iff_ne.mpr c44
                  have c44b2 : ¬ (l0_5 = []) := fun h_ => c44 (by rw [h_]; rfl)
                  obtain rfl := Option.some.inj H
                  have hcz51_0 : wr.cell? ⟨gb117, 0, none⟩ = some (.int .i64 a0_0) := (blk_cell BK117.out 0).trans rfl
                  have hcz51_1 : wr.cell? ⟨gb117, 1, none⟩ = some (.string a0_1) := (blk_cell BK117.out 1).trans rfl
                  have hcz51_2 : wr.cell? ⟨gb117, 2, none⟩ = some (.slice A0_2 l0_2.length c0_2) := (blk_cell BK117.out 2).trans rfl
                  have hcz51_3 : wr.cell? ⟨gb117, 3, none⟩ = some (.int .i64 a0_3) := (blk_cell BK117.out 3).trans rfl
                  have hcz51_4 : wr.cell? ⟨gb117, 4, none⟩ = some (.int .i64 a0_4) := (blk_cell BK117.out 4).trans rfl
                  have hcz51_5 : wr.cell? ⟨gb117, 5, none⟩ = some (.slice A0_5 l0_5.length c0_5) := (blk_cell BK117.out 5).trans rfl
                  have hfz51_0 := blk_frozen BK117.out 0
                  have hfz51_1 := blk_frozen BK117.out 1
                  have hfz51_2 := blk_frozen BK117.out 2
                  have hfz51_3 := blk_frozen BK117.out 3
                  have hfz51_4 := blk_frozen BK117.out 4
                  have hfz51_5 := blk_frozen BK117.out 5
                  go_wp2
                  go_ret
                  exact ⟨er_, be1_ HB GE117⟩
             ·rw [if_neg c29] at H
              have c29b0 : (a0_0 == 3) = false := beq_eq_false_iff_ne.mpr c29
              have c29b1 : (a0_0 != 3) = true := bne_iff_ne.mpr c29
              have HC52 := Aside0.mk H
              clear H
              go_upto_if 87 with (fail)
              go_cut [87] (fun v87 wc => ∃ (kq : Nat) (x87_51 : Bool), v87 = .bool x87_51 ∧ Aside0 (formula_fields.j5 kq a0_0 x87_51 a0_0 a0_1 l0_2 a0_3 a0_4 l0_5 = some r) ∧ Aside0 (kq ≤ kj23) ∧ Aside0 (wc.heap[gb117]? = some (.cells #[.int .i64 a0_0, .string a0_1, (.slice A0_2 l0_2.length c0_2), .int .i64 a0_3, .int .i64 a0_4, (.slice A0_5 l0_5.length c0_5)] 32 (0, 0))) ∧ Aside0 (Below w.heap.size w wc))
              case first =>
               have H := HC52.out
               clear HC52
               by_cases c53 : a0_0 = 4
               ·rw [if_pos c53] at H
                have c53b0 : (a0_0 == 4) = true := beq_iff_eq.mpr c53
                have c53b1 : (a0_0 != 4) = false := bne_eq_false_iff_eq.mpr c53
                clear c53
                (first | rw [c53b0] | (simp only [i64_w, i32_w]; rw [c53b0]) | skip)
                have H' := Aside0.mk H
                clear H
                go_wp2
                go_meet
                case rel => exact ⟨_, ((a0_0 == 4)), (by first | rfl | (simp; done) | (simp [*]; done) | (simp [pw_isEmpty]; done)), H', ⟨by have := HJ2.out; have := HJ10.out; have := HJ15.out; have := HJ23.out; first | omega | exact Nat.le_refl _⟩, ⟨bq_ BK117⟩, ⟨be1_ HB GE117⟩⟩
               ·rw [if_neg c53] at H
                have c53b0 : (a0_0 == 4) = false := beq_eq_false_iff_ne.mpr c53
                have c53b1 : (a0_0 != 4) = true := bne_iff_ne.mpr c53
                (first | rw [c53b0] | (simp only [i64_w, i32_w]; rw [c53b0]) | skip)
                by_cases c54 : a0_0 = 11
                ·rw [if_pos c54] at H
                 have c54b0 : (a0_0 == 11) = true := beq_iff_eq.mpr c54
                 have c54b1 : (a0_0 != 11) = false := bne_eq_false_iff_eq.mpr c54
                 clear c54
                 have H' := Aside0.mk H
                 clear H
                 go_wp2
                 go_meet
                 case rel => exact ⟨_, ((a0_0 == 11)), (by first | rfl | (simp; done) | (simp [*]; done) | (simp [pw_isEmpty]; done)), H', ⟨by have := HJ2.out; have := HJ10.out; have := HJ15.out; have := HJ23.out; first | omega | exact Nat.le_refl _⟩, ⟨bq_ BK117⟩, ⟨be1_ HB GE117⟩⟩
                ·rw [if_neg c54] at H
                 have c54b0 : (a0_0 == 11) = false := beq_eq_false_iff_ne.mpr c54
                 have c54b1 : (a0_0 != 11) = true := bne_iff_ne.mpr c54
                 have H' := Aside0.mk H
                 clear H
                 go_wp2
                 go_meet
                 case rel => exact ⟨_, ((a0_0 == 12)), (by first | rfl | (simp; done) | (simp [*]; done) | (simp [pw_isEmpty]; done)), H', ⟨by have := HJ2.out; have := HJ10.out; have := HJ15.out; have := HJ23.out; first | omega | exact Nat.le_refl _⟩, ⟨bq_ BK117⟩, ⟨be1_ HB GE117⟩⟩
              case rest =>
               clear HC52
               try clear c1
               try clear p1
               try clear q1
               try clear hx1
               try clear c2
               try clear p2
               try clear c3
               try clear c4
               try clear c5
               try clear c5b0
               try clear c5b1
               try clear p6
               try clear c7
               try clear c7b0
               try clear c7b1
               try clear c8
               try clear c10
               try clear p11
               try clear q11
               try clear hx11
               try clear c12
               try clear c12b0
               try clear c12b1
               try clear c15
               try clear c17
               try clear c17b0
               try clear c17b1
               try clear c20
               try clear c23
               try clear c26
               try clear c26b0
               try clear c26b1
               try clear c27
               try clear c29
               try clear c29b0
               try clear c29b1
               try clear c31
               try clear c31b0
               try clear c32
               try clear c32b0
               try clear c33
               try clear c33b0
               try clear c35
               try clear c37
               try clear c41
               try clear c44
               try clear c44b0
               try clear c44b1
               try clear c44b2
               try clear c45
               try clear c45b0
               try clear c45b1
               try clear c46
               try clear c46b0
               try clear c46b1
               try clear c53
               try clear c53b0
               try clear c53b1
               try clear c54
               try clear c54b0
               try clear c54b1
               try clear hcz13_0
               try clear hcz13_1
               try clear hcz13_2
               try clear hcz13_3
               try clear hcz13_4
               try clear hcz13_5
               try clear hcz14_0
               try clear hcz14_1
               try clear hcz14_2
               try clear hcz14_3
               try clear hcz14_4
               try clear hcz14_5
               try clear hcz18_0
               try clear hcz18_1
               try clear hcz18_2
               try clear hcz18_3
               try clear hcz18_4
               try clear hcz18_5
               try clear hcz21_0
               try clear hcz21_1
               try clear hcz21_2
               try clear hcz21_3
               try clear hcz21_4
               try clear hcz21_5
               try clear hcz22_0
               try clear hcz22_1
               try clear hcz22_2
               try clear hcz22_3
               try clear hcz22_4
               try clear hcz22_5
               try clear hcz25_0
               try clear hcz25_1
               try clear hcz25_2
               try clear hcz25_3
               try clear hcz25_4
               try clear hcz25_5
               try clear hcz28_0
               try clear hcz28_1
               try clear hcz28_2
               try clear hcz28_3
               try clear hcz28_4
               try clear hcz28_5
               try clear hcz30_0
               try clear hcz30_1
               try clear hcz30_2
               try clear hcz30_3
               try clear hcz30_4
               try clear hcz30_5
               try clear hcz38_0
               try clear hcz38_1
               try clear hcz38_2
               try clear hcz42_0
               try clear hcz42_1
               try clear hcz42_2
               try clear hcz48_0
               try clear hcz48_1
               try clear hcz48_2
               try clear hcz48_3
               try clear hcz48_4
               try clear hcz48_5
               try clear hcz49_0
               try clear hcz49_1
               try clear hcz49_2
               try clear hcz49_3
               try clear hcz49_4
               try clear hcz49_5
               try clear hcz50_0
               try clear hcz50_1
               try clear hcz50_2
               try clear hcz50_3
               try clear hcz50_4
               try clear hcz50_5
               try clear hcz51_0
               try clear hcz51_1
               try clear hcz51_2
               try clear hcz51_3
               try clear hcz51_4
               try clear hcz51_5
               try clear hcz6_0
               try clear hcz6_1
               try clear hcz6_2
               try clear hcz6_3
               try clear hcz6_4
               try clear hcz6_5
               try clear hcz8_0
               try clear hcz8_1
               try clear hcz8_2
               try clear hcz8_3
               try clear hcz8_4
               try clear hcz8_5
               try clear hcz9_0
               try clear hcz9_1
               try clear hcz9_2
               try clear hcz9_3
               try clear hcz9_4
               try clear hcz9_5
               try clear hfz13_0
               try clear hfz13_1
               try clear hfz13_2
               try clear hfz13_3
               try clear hfz13_4
               try clear hfz13_5
               try clear hfz14_0
               try clear hfz14_1
               try clear hfz14_2
               try clear hfz14_3
               try clear hfz14_4
               try clear hfz14_5
               try clear hfz18_0
               try clear hfz18_1
               try clear hfz18_2
               try clear hfz18_3
               try clear hfz18_4
               try clear hfz18_5
               try clear hfz21_0
               try clear hfz21_1
               try clear hfz21_2
               try clear hfz21_3
               try clear hfz21_4
               try clear hfz21_5
               try clear hfz22_0
               try clear hfz22_1
               try clear hfz22_2
               try clear hfz22_3
               try clear hfz22_4
               try clear hfz22_5
               try clear hfz25_0
               try clear hfz25_1
               try clear hfz25_2
               try clear hfz25_3
               try clear hfz25_4
               try clear hfz25_5
               try clear hfz28_0
               try clear hfz28_1
               try clear hfz28_2
               try clear hfz28_3
               try clear hfz28_4
               try clear hfz28_5
               try clear hfz30_0
               try clear hfz30_1
               try clear hfz30_2
               try clear hfz30_3
               try clear hfz30_4
               try clear hfz30_5
               try clear hfz38_0
               try clear hfz38_1
               try clear hfz38_2
               try clear hfz42_0
               try clear hfz42_1
               try clear hfz42_2
               try clear hfz48_0
               try clear hfz48_1
               try clear hfz48_2
               try clear hfz48_3
               try clear hfz48_4
               try clear hfz48_5
               try clear hfz49_0
               try clear hfz49_1
               try clear hfz49_2
               try clear hfz49_3
               try clear hfz49_4
               try clear hfz49_5
               try clear hfz50_0
               try clear hfz50_1
               try clear hfz50_2
               try clear hfz50_3
               try clear hfz50_4
               try clear hfz50_5
               try clear hfz51_0
               try clear hfz51_1
               try clear hfz51_2
               try clear hfz51_3
               try clear hfz51_4
               try clear hfz51_5
               try clear hfz6_0
               try clear hfz6_1
               try clear hfz6_2
               try clear hfz6_3
               try clear hfz6_4
               try clear hfz6_5
               try clear hfz8_0
               try clear hfz8_1
               try clear hfz8_2
               try clear hfz8_3
               try clear hfz8_4
               try clear hfz8_5
               try clear hfz9_0
               try clear hfz9_1
               try clear hfz9_2
               try clear hfz9_3
               try clear hfz9_4
               try clear hfz9_5
               try clear hx119_0
               try clear hx119_1
               try clear hx119_2
               try clear p119
               try clear p2
               try clear q119
               obtain ⟨kq, x87_51, rfl, HA, HJ51, BK117, HB⟩ := hcut
               cases kq with
               | zero => exact absurd HA.out (by simp [formula_fields.j5])
               | succ kj51 =>
                have H := HA.out
                clear HA
                simp only [formula_fields.j5] at H
                by_cases c55 : x87_51 = true
                ·subst c55
                 have H1 : (some ((l0_5.length : Int) == 1)) = some r := by rw [if_pos rfl] at H; exact H
                 clear H
                 have H := H1
                 clear H1
                 obtain rfl := Option.some.inj H
                 have hcz56_0 : wc.cell? ⟨gb117, 0, none⟩ = some (.int .i64 a0_0) := (blk_cell BK117.out 0).trans rfl
                 have hcz56_1 : wc.cell? ⟨gb117, 1, none⟩ = some (.string a0_1) := (blk_cell BK117.out 1).trans rfl
                 have hcz56_2 : wc.cell? ⟨gb117, 2, none⟩ = some (.slice A0_2 l0_2.length c0_2) := (blk_cell BK117.out 2).trans rfl
                 have hcz56_3 : wc.cell? ⟨gb117, 3, none⟩ = some (.int .i64 a0_3) := (blk_cell BK117.out 3).trans rfl
                 have hcz56_4 : wc.cell? ⟨gb117, 4, none⟩ = some (.int .i64 a0_4) := (blk_cell BK117.out 4).trans rfl
                 have hcz56_5 : wc.cell? ⟨gb117, 5, none⟩ = some (.slice A0_5 l0_5.length c0_5) := (blk_cell BK117.out 5).trans rfl
                 have hfz56_0 := blk_frozen BK117.out 0
                 have hfz56_1 := blk_frozen BK117.out 1
                 have hfz56_2 := blk_frozen BK117.out 2
                 have hfz56_3 := blk_frozen BK117.out 3
                 have hfz56_4 := blk_frozen BK117.out 4
                 have hfz56_5 := blk_frozen BK117.out 5
                 go_wp2
                 go_ret
                 exact ⟨er_, be1_ HB GE117⟩
                ·replace c55 := Bool.eq_false_iff.mpr c55
                 subst c55
                 have H1 : (if a0_0 = 5 then (formula_fields.j6 kj51 a0_0 (a0_0 == 5) a0_0 a0_1 l0_2 a0_3 a0_4 l0_5) else (formula_fields.j6 kj51 a0_0 (a0_0 == 6) a0_0 a0_1 l0_2 a0_3 a0_4 l0_5)) = some r := by rw [if_neg (show ¬ (false = true) by decide)] at H; exact H
                 clear H
                 have H := H1
                 clear H1
                 have HC57 := Aside0.mk H
                 clear H
                 go_upto_if 95 with (fail)
                 go_cut [95] (fun v95 wc => ∃ (kq : Nat) (x95_56 : Bool), v95 = .bool x95_56 ∧ Aside0 (formula_fields.j6 kq a0_0 x95_56 a0_0 a0_1 l0_2 a0_3 a0_4 l0_5 = some r) ∧ Aside0 (kq ≤ kj51) ∧ Aside0 (wc.heap[gb117]? = some (.cells #[.int .i64 a0_0, .string a0_1, (.slice A0_2 l0_2.length c0_2), .int .i64 a0_3, .int .i64 a0_4, (.slice A0_5 l0_5.length c0_5)] 32 (0, 0))) ∧ Aside0 (Below w.heap.size w wc))
                 case first =>
                  have H := HC57.out
                  clear HC57
                  by_cases c58 : a0_0 = 5
                  ·rw [if_pos c58] at H
                   have c58b0 : (a0_0 == 5) = true := beq_iff_eq.mpr c58
                   have c58b1 : (a0_0 != 5) = false := bne_eq_false_iff_eq.mpr c58
                   clear c58
                   (first | rw [c58b0] | (simp only [i64_w, i32_w]; rw [c58b0]) | skip)
                   have H' := Aside0.mk H
                   clear H
                   go_wp2
                   go_meet
                   case rel => exact ⟨_, ((a0_0 == 5)), (by first | rfl | (simp; done) | (simp [*]; done) | (simp [pw_isEmpty]; done)), H', ⟨by have := HJ2.out; have := HJ10.out; have := HJ15.out; have := HJ23.out; have := HJ51.out; first | omega | exact Nat.le_refl _⟩, ⟨bq_ BK117⟩, ⟨be1_ HB GE117⟩⟩
                  ·rw [if_neg c58] at H
                   have c58b0 : (a0_0 == 5) = false := beq_eq_false_iff_ne.mpr c58
                   have c58b1 : (a0_0 != 5) = true := bne_iff_ne.mpr c58
                   (first | rw [c58b0] | (simp only [i64_w, i32_w]; rw [c58b0]) | skip)
                   have H' := Aside0.mk H
                   clear H
                   go_wp2
                   go_meet
                   case rel => exact ⟨_, ((a0_0 == 6)), (by first | rfl | (simp; done) | (simp [*]; done) | (simp [pw_isEmpty]; done)), H', ⟨by have := HJ2.out; have := HJ10.out; have := HJ15.out; have := HJ23.out; have := HJ51.out; first | omega | exact Nat.le_refl _⟩, ⟨bq_ BK117⟩, ⟨be1_ HB GE117⟩⟩
                 case rest =>
                  clear HC57
                  try clear c1
                  try clear p1
                  try clear q1
                  try clear hx1
                  try clear c2
                  try clear p2
                  try clear c3
                  try clear c4
                  try clear c5
                  try clear c5b0
                  try clear c5b1
                  try clear p6
                  try clear c7
                  try clear c7b0
                  try clear c7b1
                  try clear c8
                  try clear c10
                  try clear p11
                  try clear q11
                  try clear hx11
                  try clear c12
                  try clear c12b0
                  try clear c12b1
                  try clear c15
                  try clear c17
                  try clear c17b0
                  try clear c17b1
                  try clear c20
                  try clear c23
                  try clear c26
                  try clear c26b0
                  try clear c26b1
                  try clear c27
                  try clear c29
                  try clear c29b0
                  try clear c29b1
                  try clear c31
                  try clear c31b0
                  try clear c32
                  try clear c32b0
                  try clear c33
                  try clear c33b0
                  try clear c35
                  try clear c37
                  try clear c41
                  try clear c44
                  try clear c44b0
                  try clear c44b1
                  try clear c44b2
                  try clear c45
                  try clear c45b0
                  try clear c45b1
                  try clear c46
                  try clear c46b0
                  try clear c46b1
                  try clear c53
                  try clear c53b0
                  try clear c53b1
                  try clear c54
                  try clear c54b0
                  try clear c54b1
                  try clear c55
                  try clear c58
                  try clear c58b0
                  try clear c58b1
                  try clear hcz13_0
                  try clear hcz13_1
                  try clear hcz13_2
                  try clear hcz13_3
                  try clear hcz13_4
                  try clear hcz13_5
                  try clear hcz14_0
                  try clear hcz14_1
                  try clear hcz14_2
                  try clear hcz14_3
                  try clear hcz14_4
                  try clear hcz14_5
                  try clear hcz18_0
                  try clear hcz18_1
                  try clear hcz18_2
                  try clear hcz18_3
                  try clear hcz18_4
                  try clear hcz18_5
                  try clear hcz21_0
                  try clear hcz21_1
                  try clear hcz21_2
                  try clear hcz21_3
                  try clear hcz21_4
                  try clear hcz21_5
                  try clear hcz22_0
                  try clear hcz22_1
                  try clear hcz22_2
                  try clear hcz22_3
                  try clear hcz22_4
                  try clear hcz22_5
                  try clear hcz25_0
                  try clear hcz25_1
                  try clear hcz25_2
                  try clear hcz25_3
                  try clear hcz25_4
                  try clear hcz25_5
                  try clear hcz28_0
                  try clear hcz28_1
                  try clear hcz28_2
                  try clear hcz28_3
                  try clear hcz28_4
                  try clear hcz28_5
                  try clear hcz30_0
                  try clear hcz30_1
                  try clear hcz30_2
                  try clear hcz30_3
                  try clear hcz30_4
                  try clear hcz30_5
                  try clear hcz38_0
                  try clear hcz38_1
                  try clear hcz38_2
                  try clear hcz42_0
                  try clear hcz42_1
                  try clear hcz42_2
                  try clear hcz48_0
                  try clear hcz48_1
                  try clear hcz48_2
                  try clear hcz48_3
                  try clear hcz48_4
                  try clear hcz48_5
                  try clear hcz49_0
                  try clear hcz49_1
                  try clear hcz49_2
                  try clear hcz49_3
                  try clear hcz49_4
                  try clear hcz49_5
                  try clear hcz50_0
                  try clear hcz50_1
                  try clear hcz50_2
                  try clear hcz50_3
                  try clear hcz50_4
                  try clear hcz50_5
                  try clear hcz51_0
                  try clear hcz51_1
                  try clear hcz51_2
                  try clear hcz51_3
                  try clear hcz51_4
                  try clear hcz51_5
                  try clear hcz56_0
                  try clear hcz56_1
                  try clear hcz56_2
                  try clear hcz56_3
                  try clear hcz56_4
                  try clear hcz56_5
                  try clear hcz6_0
                  try clear hcz6_1
                  try clear hcz6_2
                  try clear hcz6_3
                  try clear hcz6_4
                  try clear hcz6_5
                  try clear hcz8_0
                  try clear hcz8_1
                  try clear hcz8_2
                  try clear hcz8_3
                  try clear hcz8_4
                  try clear hcz8_5
                  try clear hcz9_0
                  try clear hcz9_1
                  try clear hcz9_2
                  try clear hcz9_3
                  try clear hcz9_4
                  try clear hcz9_5
                  try clear hfz13_0
                  try clear hfz13_1
                  try clear hfz13_2
                  try clear hfz13_3
                  try clear hfz13_4
                  try clear hfz13_5
                  try clear hfz14_0
                  try clear hfz14_1
                  try clear hfz14_2
                  try clear hfz14_3
                  try clear hfz14_4
                  try clear hfz14_5
                  try clear hfz18_0
                  try clear hfz18_1
                  try clear hfz18_2
                  try clear hfz18_3
                  try clear hfz18_4
                  try clear hfz18_5
                  try clear hfz21_0
                  try clear hfz21_1
                  try clear hfz21_2
                  try clear hfz21_3
                  try clear hfz21_4
                  try clear hfz21_5
                  try clear hfz22_0
                  try clear hfz22_1
                  try clear hfz22_2
                  try clear hfz22_3
                  try clear hfz22_4
                  try clear hfz22_5
                  try clear hfz25_0
                  try clear hfz25_1
                  try clear hfz25_2
                  try clear hfz25_3
                  try clear hfz25_4
                  try clear hfz25_5
                  try clear hfz28_0
                  try clear hfz28_1
                  try clear hfz28_2
                  try clear hfz28_3
                  try clear hfz28_4
                  try clear hfz28_5
                  try clear hfz30_0
                  try clear hfz30_1
                  try clear hfz30_2
                  try clear hfz30_3
                  try clear hfz30_4
                  try clear hfz30_5
                  try clear hfz38_0
                  try clear hfz38_1
                  try clear hfz38_2
                  try clear hfz42_0
                  try clear hfz42_1
                  try clear hfz42_2
                  try clear hfz48_0
                  try clear hfz48_1
                  try clear hfz48_2
                  try clear hfz48_3
                  try clear hfz48_4
                  try clear hfz48_5
                  try clear hfz49_0
                  try clear hfz49_1
                  try clear hfz49_2
                  try clear hfz49_3
                  try clear hfz49_4
                  try clear hfz49_5
                  try clear hfz50_0
                  try clear hfz50_1
                  try clear hfz50_2
                  try clear hfz50_3
                  try clear hfz50_4
                  try clear hfz50_5
                  try clear hfz51_0
                  try clear hfz51_1
                  try clear hfz51_2
                  try clear hfz51_3
                  try clear hfz51_4
                  try clear hfz51_5
                  try clear hfz56_0
                  try clear hfz56_1
                  try clear hfz56_2
                  try clear hfz56_3
                  try clear hfz56_4
                  try clear hfz56_5
                  try clear hfz6_0
                  try clear hfz6_1
                  try clear hfz6_2
                  try clear hfz6_3
                  try clear hfz6_4
                  try clear hfz6_5
                  try clear hfz8_0
                  try clear hfz8_1
                  try clear hfz8_2
                  try clear hfz8_3
                  try clear hfz8_4
                  try clear hfz8_5
                  try clear hfz9_0
                  try clear hfz9_1
                  try clear hfz9_2
                  try clear hfz9_3
                  try clear hfz9_4
                  try clear hfz9_5
                  try clear hx119_0
                  try clear hx119_1
                  try clear hx119_2
                  try clear p1
                  try clear p11
                  try clear p119
                  try clear p2
                  try clear p6
                  try clear q1
                  try clear q11
                  try clear q119
                  obtain ⟨kq, x95_56, rfl, HA, HJ56, BK117, HB⟩ := hcut
                  cases kq with
                  | zero => exact absurd HA.out (by simp [formula_fields.j6])
                  | succ kj56 =>
                   have H := HA.out
                   clear HA
                   simp only [formula_fields.j6] at H
                   by_cases c59 : x95_56 = true
                   ·subst c59
                    have H1 : (some true) = some r := by rw [if_pos rfl] at H; exact H
                    clear H
                    have H := H1
                    clear H1
                    obtain rfl := Option.some.inj H
                    go_wp2
                    go_ret
                    exact ⟨er_, be1_ HB GE117⟩
                   ·replace c59 := Bool.eq_false_iff.mpr c59
                    subst c59
                    have H1 : (if a0_0 = 7 then (some ((l0_5.length : Int) == 2)) else (if a0_0 = 8 then (formula_fields.j7 kj56 a0_0 (a0_0 == 8) a0_0 a0_1 l0_2 a0_3 a0_4 l0_5) else (formula_fields.j7 kj56 a0_0 (a0_0 == 9) a0_0 a0_1 l0_2 a0_3 a0_4 l0_5))) = some r := by rw [if_neg (show ¬ (false = true) by decide)] at H; exact H
                    clear H
                    have H := H1
                    clear H1
                    by_cases c60 : a0_0 = 7
                    ·rw [if_pos c60] at H
                     have c60b0 : (a0_0 == 7) = true := beq_iff_eq.mpr c60
                     have c60b1 : (a0_0 != 7) = false := bne_eq_false_iff_eq.mpr c60
                     clear c60
                     obtain rfl := Option.some.inj H
                     have hcz61_0 : wc.cell? ⟨gb117, 0, none⟩ = some (.int .i64 a0_0) := (blk_cell BK117.out 0).trans rfl
                     have hcz61_1 : wc.cell? ⟨gb117, 1, none⟩ = some (.string a0_1) := (blk_cell BK117.out 1).trans rfl
                     have hcz61_2 : wc.cell? ⟨gb117, 2, none⟩ = some (.slice A0_2 l0_2.length c0_2) := (blk_cell BK117.out 2).trans rfl
                     have hcz61_3 : wc.cell? ⟨gb117, 3, none⟩ = some (.int .i64 a0_3) := (blk_cell BK117.out 3).trans rfl
                     have hcz61_4 : wc.cell? ⟨gb117, 4, none⟩ = some (.int .i64 a0_4) := (blk_cell BK117.out 4).trans rfl
                     have hcz61_5 : wc.cell? ⟨gb117, 5, none⟩ = some (.slice A0_5 l0_5.length c0_5) := (blk_cell BK117.out 5).trans rfl
                     have hfz61_0 := blk_frozen BK117.out 0
                     have hfz61_1 := blk_frozen BK117.out 1
                     have hfz61_2 := blk_frozen BK117.out 2
                     have hfz61_3 := blk_frozen BK117.out 3
                     have hfz61_4 := blk_frozen BK117.out 4
                     have hfz61_5 := blk_frozen BK117.out 5
                     go_wp2
                     go_ret
                     exact ⟨er_, be1_ HB GE117⟩
                    ·rw [if_neg c60] at H
                     have c60b0 : (a0_0 == 7) = false := beq_eq_false_iff_ne.mpr c60
                     have c60b1 : (a0_0 != 7) = true := bne_iff_ne.mpr c60
                     have HC62 := Aside0.mk H
                     clear H
                     go_upto_if 104 with (fail)
                     go_cut [104] (fun v104 wc => ∃ (kq : Nat) (x104_61 : Bool), v104 = .bool x104_61 ∧ Aside0 (formula_fields.j7 kq a0_0 x104_61 a0_0 a0_1 l0_2 a0_3 a0_4 l0_5 = some r) ∧ Aside0 (kq ≤ kj56) ∧ Aside0 (wc.heap[gb117]? = some (.cells #[.int .i64 a0_0, .string a0_1, (.slice A0_2 l0_2.length c0_2), .int .i64 a0_3, .int .i64 a0_4, (.slice A0_5 l0_5.length c0_5)] 32 (0, 0))) ∧ Aside0 (Below w.heap.size w wc))
                     case first =>
                      have H := HC62.out
                      clear HC62
                      by_cases c63 : a0_0 = 8
                      ·rw [if_pos c63] at H
                       have c63b0 : (a0_0 == 8) = true := beq_iff_eq.mpr c63
                       have c63b1 : (a0_0 != 8) = false := bne_eq_false_iff_eq.mpr c63
                       clear c63
                       (first | rw [c63b0] | (simp only [i64_w, i32_w]; rw [c63b0]) | skip)
                       have H' := Aside0.mk H
                       clear H
                       go_wp2
                       go_meet
                       case rel => exact ⟨_, ((a0_0 == 8)), (by first | rfl | (simp; done) | (simp [*]; done) | (simp [pw_isEmpty]; done)), H', ⟨by have := HJ2.out; have := HJ10.out; have := HJ15.out; have := HJ23.out; have := HJ51.out; have := HJ56.out; first | omega | exact Nat.le_refl _⟩, ⟨bq_ BK117⟩, ⟨be1_ HB GE117⟩⟩
                      ·rw [if_neg c63] at H
                       have c63b0 : (a0_0 == 8) = false := beq_eq_false_iff_ne.mpr c63
                       have c63b1 : (a0_0 != 8) = true := bne_iff_ne.mpr c63
                       (first | rw [c63b0] | (simp only [i64_w, i32_w]; rw [c63b0]) | skip)
                       have H' := Aside0.mk H
                       clear H
                       go_wp2
                       go_meet
                       case rel => exact ⟨_, ((a0_0 == 9)), (by first | rfl | (simp; done) | (simp [*]; done) | (simp [pw_isEmpty]; done)), H', ⟨by have := HJ2.out; have := HJ10.out; have := HJ15.out; have := HJ23.out; have := HJ51.out; have := HJ56.out; first | omega | exact Nat.le_refl _⟩, ⟨bq_ BK117⟩, ⟨be1_ HB GE117⟩⟩
                     case rest =>
                      clear HC62
                      try clear c1
                      try clear p1
                      try clear q1
                      try clear hx1
                      try clear c2
                      try clear p2
                      try clear c3
                      try clear c4
                      try clear c5
                      try clear c5b0
                      try clear c5b1
                      try clear c6
                      try clear p6
                      try clear c7
                      try clear c7b0
                      try clear c7b1
                      try clear c8
                      try clear c10
                      try clear p11
                      try clear q11
                      try clear hx11
                      try clear c12
                      try clear c12b0
                      try clear c12b1
                      try clear c15
                      try clear c17
                      try clear c17b0
                      try clear c17b1
                      try clear c20
                      try clear c23
                      try clear c26
                      try clear c26b0
                      try clear c26b1
                      try clear c27
                      try clear c29
                      try clear c29b0
                      try clear c29b1
                      try clear c31
                      try clear c31b0
                      try clear c32
                      try clear c32b0
                      try clear c33
                      try clear c33b0
                      try clear c35
                      try clear c37
                      try clear c41
                      try clear c44
                      try clear c44b0
                      try clear c44b1
                      try clear c44b2
                      try clear c45
                      try clear c45b0
                      try clear c45b1
                      try clear c46
                      try clear c46b0
                      try clear c46b1
                      try clear c53
                      try clear c53b0
                      try clear c53b1
                      try clear c54
                      try clear c54b0
                      try clear c54b1
                      try clear c55
                      try clear c58
                      try clear c58b0
                      try clear c58b1
                      try clear c59
                      try clear c60
                      try clear c60b0
                      try clear c60b1
                      try clear c63
                      try clear c63b0
                      try clear c63b1
                      try clear hcz13_0
                      try clear hcz13_1
                      try clear hcz13_2
                      try clear hcz13_3
                      try clear hcz13_4
                      try clear hcz13_5
                      try clear hcz14_0
                      try clear hcz14_1
                      try clear hcz14_2
                      try clear hcz14_3
                      try clear hcz14_4
                      try clear hcz14_5
                      try clear hcz18_0
                      try clear hcz18_1
                      try clear hcz18_2
                      try clear hcz18_3
                      try clear hcz18_4
                      try clear hcz18_5
                      try clear hcz21_0
                      try clear hcz21_1
                      try clear hcz21_2
                      try clear hcz21_3
                      try clear hcz21_4
                      try clear hcz21_5
                      try clear hcz22_0
                      try clear hcz22_1
                      try clear hcz22_2
                      try clear hcz22_3
                      try clear hcz22_4
                      try clear hcz22_5
                      try clear hcz25_0
                      try clear hcz25_1
                      try clear hcz25_2
                      try clear hcz25_3
                      try clear hcz25_4
                      try clear hcz25_5
                      try clear hcz28_0
                      try clear hcz28_1
                      try clear hcz28_2
                      try clear hcz28_3
                      try clear hcz28_4
                      try clear hcz28_5
                      try clear hcz30_0
                      try clear hcz30_1
                      try clear hcz30_2
                      try clear hcz30_3
                      try clear hcz30_4
                      try clear hcz30_5
                      try clear hcz38_0
                      try clear hcz38_1
                      try clear hcz38_2
                      try clear hcz42_0
                      try clear hcz42_1
                      try clear hcz42_2
                      try clear hcz48_0
                      try clear hcz48_1
                      try clear hcz48_2
                      try clear hcz48_3
                      try clear hcz48_4
                      try clear hcz48_5
                      try clear hcz49_0
                      try clear hcz49_1
                      try clear hcz49_2
                      try clear hcz49_3
                      try clear hcz49_4
                      try clear hcz49_5
                      try clear hcz50_0
                      try clear hcz50_1
                      try clear hcz50_2
                      try clear hcz50_3
                      try clear hcz50_4
                      try clear hcz50_5
                      try clear hcz51_0
                      try clear hcz51_1
                      try clear hcz51_2
                      try clear hcz51_3
                      try clear hcz51_4
                      try clear hcz51_5
                      try clear hcz56_0
                      try clear hcz56_1
                      try clear hcz56_2
                      try clear hcz56_3
                      try clear hcz56_4
                      try clear hcz56_5
                      try clear hcz61_0
                      try clear hcz61_1
                      try clear hcz61_2
                      try clear hcz61_3
                      try clear hcz61_4
                      try clear hcz61_5
                      try clear hcz6_0
                      try clear hcz6_1
                      try clear hcz6_2
                      try clear hcz6_3
                      try clear hcz6_4
                      try clear hcz6_5
                      try clear hcz8_0
                      try clear hcz8_1
                      try clear hcz8_2
                      try clear hcz8_3
                      try clear hcz8_4
                      try clear hcz8_5
                      try clear hcz9_0
                      try clear hcz9_1
                      try clear hcz9_2
                      try clear hcz9_3
                      try clear hcz9_4
                      try clear hcz9_5
                      try clear hfz13_0
                      try clear hfz13_1
                      try clear hfz13_2
                      try clear hfz13_3
                      try clear hfz13_4
                      try clear hfz13_5
                      try clear hfz14_0
                      try clear hfz14_1
                      try clear hfz14_2
                      try clear hfz14_3
                      try clear hfz14_4
                      try clear hfz14_5
                      try clear hfz18_0
                      try clear hfz18_1
                      try clear hfz18_2
                      try clear hfz18_3
                      try clear hfz18_4
                      try clear hfz18_5
                      try clear hfz21_0
                      try clear hfz21_1
                      try clear hfz21_2
                      try clear hfz21_3
                      try clear hfz21_4
                      try clear hfz21_5
                      try clear hfz22_0
                      try clear hfz22_1
                      try clear hfz22_2
                      try clear hfz22_3
                      try clear hfz22_4
                      try clear hfz22_5
                      try clear hfz25_0
                      try clear hfz25_1
                      try clear hfz25_2
                      try clear hfz25_3
                      try clear hfz25_4
                      try clear hfz25_5
                      try clear hfz28_0
                      try clear hfz28_1
                      try clear hfz28_2
                      try clear hfz28_3
                      try clear hfz28_4
                      try clear hfz28_5
                      try clear hfz30_0
                      try clear hfz30_1
                      try clear hfz30_2
                      try clear hfz30_3
                      try clear hfz30_4
                      try clear hfz30_5
                      try clear hfz38_0
                      try clear hfz38_1
                      try clear hfz38_2
                      try clear hfz42_0
                      try clear hfz42_1
                      try clear hfz42_2
                      try clear hfz48_0
                      try clear hfz48_1
                      try clear hfz48_2
                      try clear hfz48_3
                      try clear hfz48_4
                      try clear hfz48_5
                      try clear hfz49_0
                      try clear hfz49_1
                      try clear hfz49_2
                      try clear hfz49_3
                      try clear hfz49_4
                      try clear hfz49_5
                      try clear hfz50_0
                      try clear hfz50_1
                      try clear hfz50_2
                      try clear hfz50_3
                      try clear hfz50_4
                      try clear hfz50_5
                      try clear hfz51_0
                      try clear hfz51_1
                      try clear hfz51_2
                      try clear hfz51_3
                      try clear hfz51_4
                      try clear hfz51_5
                      try clear hfz56_0
                      try clear hfz56_1
                      try clear hfz56_2
                      try clear hfz56_3
                      try clear hfz56_4
                      try clear hfz56_5
                      try clear hfz61_0
                      try clear hfz61_1
                      try clear hfz61_2
                      try clear hfz61_3
                      try clear hfz61_4
                      try clear hfz61_5
                      try clear hfz6_0
                      try clear hfz6_1
                      try clear hfz6_2
                      try clear hfz6_3
                      try clear hfz6_4
                      try clear hfz6_5
                      try clear hfz8_0
                      try clear hfz8_1
                      try clear hfz8_2
                      try clear hfz8_3
                      try clear hfz8_4
                      try clear hfz8_5
                      try clear hfz9_0
                      try clear hfz9_1
                      try clear hfz9_2
                      try clear hfz9_3
                      try clear hfz9_4
                      try clear hfz9_5
                      try clear hx119_0
                      try clear hx119_1
                      try clear hx119_2
                      try clear p1
                      try clear p11
                      try clear p119
                      try clear p2
                      try clear p6
                      try clear q1
                      try clear q11
                      try clear q119
                      obtain ⟨kq, x104_61, rfl, HA, HJ61, BK117, HB⟩ := hcut
                      cases kq with
                      | zero => exact absurd HA.out (by simp [formula_fields.j7])
                      | succ kj61 =>
                       have H := HA.out
                       clear HA
                       simp only [formula_fields.j7] at H
                       by_cases c64 : x104_61 = true
                       ·subst c64
                        have H1 : (if (l0_5.length : Int) = 1 then ((formula_symbol.f kj61 a0_1).bind fun t123 => (some t123)) else (some false)) = some r := by rw [if_pos rfl] at H; exact H
                        clear H
                        have H := H1
                        clear H1
                        by_cases c65 : (l0_5.length : Int) = 1
                        ·rw [if_pos c65] at H
                         have c65b0 : ((l0_5.length : Int) == 1) = true := beq_iff_eq.mpr c65
                         have c65b1 : ((l0_5.length : Int) != 1) = false := bne_eq_false_iff_eq.mpr c65
                         clear c65
                         replace H := Option.bind_eq_some_iff.mp H
                         obtain ⟨t123, A660, H⟩ := H
                         replace H : (some t123) = some r := H
                         have A66 := Aside0.mk A660
                         clear A660
                         obtain rfl := Option.some.inj H
                         have hcz67_0 : wc.cell? ⟨gb117, 0, none⟩ = some (.int .i64 a0_0) := (blk_cell BK117.out 0).trans rfl
                         have hcz67_1 : wc.cell? ⟨gb117, 1, none⟩ = some (.string a0_1) := (blk_cell BK117.out 1).trans rfl
                         have hcz67_2 : wc.cell? ⟨gb117, 2, none⟩ = some (.slice A0_2 l0_2.length c0_2) := (blk_cell BK117.out 2).trans rfl
                         have hcz67_3 : wc.cell? ⟨gb117, 3, none⟩ = some (.int .i64 a0_3) := (blk_cell BK117.out 3).trans rfl
                         have hcz67_4 : wc.cell? ⟨gb117, 4, none⟩ = some (.int .i64 a0_4) := (blk_cell BK117.out 4).trans rfl
                         have hcz67_5 : wc.cell? ⟨gb117, 5, none⟩ = some (.slice A0_5 l0_5.length c0_5) := (blk_cell BK117.out 5).trans rfl
                         have hfz67_0 := blk_frozen BK117.out 0
                         have hfz67_1 := blk_frozen BK117.out 1
                         have hfz67_2 := blk_frozen BK117.out 2
                         have hfz67_3 := blk_frozen BK117.out 3
                         have hfz67_4 := blk_frozen BK117.out 4
                         have hfz67_5 := blk_frozen BK117.out 5
                         go_wp2_with (first | (go_at_call 82; (with_reducible refine (formula_symbol.calls kj61 a0_1 t123 _ A66.out).mono ?_); rintro e w' ⟨rfl, ⟨nd, rfl⟩⟩))
                         go_ret
                         exact ⟨er_, be1_ HB GE117⟩
                        ·rw [if_neg c65] at H
                         have c65b0 : ((l0_5.length : Int) == 1) = false := beq_eq_false_iff_ne.mpr c65
                         have c65b1 : ((l0_5.length : Int) != 1) = true := bne_iff_ne.mpr c65
                         obtain rfl := Option.some.inj H
                         have hcz68_0 : wc.cell? ⟨gb117, 0, none⟩ = some (.int .i64 a0_0) := (blk_cell BK117.out 0).trans rfl
                         have hcz68_1 : wc.cell? ⟨gb117, 1, none⟩ = some (.string a0_1) := (blk_cell BK117.out 1).trans rfl
                         have hcz68_2 : wc.cell? ⟨gb117, 2, none⟩ = some (.slice A0_2 l0_2.length c0_2) := (blk_cell BK117.out 2).trans rfl
                         have hcz68_3 : wc.cell? ⟨gb117, 3, none⟩ = some (.int .i64 a0_3) := (blk_cell BK117.out 3).trans rfl
                         have hcz68_4 : wc.cell? ⟨gb117, 4, none⟩ = some (.int .i64 a0_4) := (blk_cell BK117.out 4).trans rfl
                         have hcz68_5 : wc.cell? ⟨gb117, 5, none⟩ = some (.slice A0_5 l0_5.length c0_5) := (blk_cell BK117.out 5).trans rfl
                         have hfz68_0 := blk_frozen BK117.out 0
                         have hfz68_1 := blk_frozen BK117.out 1
                         have hfz68_2 := blk_frozen BK117.out 2
                         have hfz68_3 := blk_frozen BK117.out 3
                         have hfz68_4 := blk_frozen BK117.out 4
                         have hfz68_5 := blk_frozen BK117.out 5
                         go_wp2
                         go_ret
                         exact ⟨er_, be1_ HB GE117⟩
                       ·replace c64 := Bool.eq_false_iff.mpr c64
                        subst c64
                        have H1 : (if a0_0 = 10 then (if (l0_5.length : Int) = 1 then ((formula_moment.f a0_3).bind fun t124 => (if t124 = true then ((formula_moment.f a0_4).bind fun t125 => (some t125)) else (some false))) else (some false)) else (some false)) = some r := by rw [if_neg (show ¬ (false = true) by decide)] at H; exact H
                        clear H
                        have H := H1
                        clear H1
                        by_cases c69 : a0_0 = 10
                        ·rw [if_pos c69] at H
                         have c69b0 : (a0_0 == 10) = true := beq_iff_eq.mpr c69
                         have c69b1 : (a0_0 != 10) = false := bne_eq_false_iff_eq.mpr c69
                         clear c69
                         by_cases c70 : (l0_5.length : Int) = 1
                         ·rw [if_pos c70] at H
                          have c70b0 : ((l0_5.length : Int) == 1) = true := beq_iff_eq.mpr c70
                          have c70b1 : ((l0_5.length : Int) != 1) = false := bne_eq_false_iff_eq.mpr c70
                          clear c70
                          replace H := Option.bind_eq_some_iff.mp H
                          obtain ⟨t124, A710, H⟩ := H
                          replace H : (if t124 = true then ((formula_moment.f a0_4).bind fun t125 => (some t125)) else (some false)) = some r := H
                          have A71 := Aside0.mk A710
                          clear A710
                          by_cases c72 : t124 = true
                          ·subst c72
                           have H1 : ((formula_moment.f a0_4).bind fun t125 => (some t125)) = some r := by rw [if_pos rfl] at H; exact H
                           clear H
                           have H := H1
                           clear H1
                           replace H := Option.bind_eq_some_iff.mp H
                           obtain ⟨t125, A730, H⟩ := H
                           replace H : (some t125) = some r := H
                           have A73 := Aside0.mk A730
                           clear A730
                           obtain rfl := Option.some.inj H
                           have hcz74_0 : wc.cell? ⟨gb117, 0, none⟩ = some (.int .i64 a0_0) := (blk_cell BK117.out 0).trans rfl
                           have hcz74_1 : wc.cell? ⟨gb117, 1, none⟩ = some (.string a0_1) := (blk_cell BK117.out 1).trans rfl
                           have hcz74_2 : wc.cell? ⟨gb117, 2, none⟩ = some (.slice A0_2 l0_2.length c0_2) := (blk_cell BK117.out 2).trans rfl
                           have hcz74_3 : wc.cell? ⟨gb117, 3, none⟩ = some (.int .i64 a0_3) := (blk_cell BK117.out 3).trans rfl
                           have hcz74_4 : wc.cell? ⟨gb117, 4, none⟩ = some (.int .i64 a0_4) := (blk_cell BK117.out 4).trans rfl
                           have hcz74_5 : wc.cell? ⟨gb117, 5, none⟩ = some (.slice A0_5 l0_5.length c0_5) := (blk_cell BK117.out 5).trans rfl
                           have hfz74_0 := blk_frozen BK117.out 0
                           have hfz74_1 := blk_frozen BK117.out 1
                           have hfz74_2 := blk_frozen BK117.out 2
                           have hfz74_3 := blk_frozen BK117.out 3
                           have hfz74_4 := blk_frozen BK117.out 4
                           have hfz74_5 := blk_frozen BK117.out 5
                           go_wp2_with (first | (go_at_call 83; (with_reducible refine (formula_moment.calls a0_3 true _ A71.out).mono ?_); rintro e w' ⟨rfl, ⟨nd, rfl⟩⟩) | (go_at_call 83; (with_reducible refine (formula_moment.calls a0_4 t125 _ A73.out).mono ?_); rintro e w' ⟨rfl, ⟨nd, rfl⟩⟩))
                           go_ret
                           exact ⟨er_, be1_ HB GE117⟩
                          ·replace c72 := Bool.eq_false_iff.mpr c72
                           subst c72
                           have H1 : (some false) = some r := by rw [if_neg (show ¬ (false = true) by decide)] at H; exact H
                           clear H
                           have H := H1
                           clear H1
                           obtain rfl := Option.some.inj H
                           have hcz75_0 : wc.cell? ⟨gb117, 0, none⟩ = some (.int .i64 a0_0) := (blk_cell BK117.out 0).trans rfl
                           have hcz75_1 : wc.cell? ⟨gb117, 1, none⟩ = some (.string a0_1) := (blk_cell BK117.out 1).trans rfl
                           have hcz75_2 : wc.cell? ⟨gb117, 2, none⟩ = some (.slice A0_2 l0_2.length c0_2) := (blk_cell BK117.out 2).trans rfl
                           have hcz75_3 : wc.cell? ⟨gb117, 3, none⟩ = some (.int .i64 a0_3) := (blk_cell BK117.out 3).trans rfl
                           have hcz75_4 : wc.cell? ⟨gb117, 4, none⟩ = some (.int .i64 a0_4) := (blk_cell BK117.out 4).trans rfl
                           have hcz75_5 : wc.cell? ⟨gb117, 5, none⟩ = some (.slice A0_5 l0_5.length c0_5) := (blk_cell BK117.out 5).trans rfl
                           have hfz75_0 := blk_frozen BK117.out 0
                           have hfz75_1 := blk_frozen BK117.out 1
                           have hfz75_2 := blk_frozen BK117.out 2
                           have hfz75_3 := blk_frozen BK117.out 3
                           have hfz75_4 := blk_frozen BK117.out 4
                           have hfz75_5 := blk_frozen BK117.out 5
                           go_wp2_with (first | (go_at_call 83; (with_reducible refine (formula_moment.calls a0_3 false _ A71.out).mono ?_); rintro e w' ⟨rfl, ⟨nd, rfl⟩⟩))
                           go_ret
                           exact ⟨er_, be1_ HB GE117⟩
                         ·rw [if_neg c70] at H
                          have c70b0 : ((l0_5.length : Int) == 1) = false := beq_eq_false_iff_ne.mpr c70
                          have c70b1 : ((l0_5.length : Int) != 1) = true := bne_iff_ne.mpr c70
                          obtain rfl := Option.some.inj H
                          have hcz76_0 : wc.cell? ⟨gb117, 0, none⟩ = some (.int .i64 a0_0) := (blk_cell BK117.out 0).trans rfl
                          have hcz76_1 : wc.cell? ⟨gb117, 1, none⟩ = some (.string a0_1) := (blk_cell BK117.out 1).trans rfl
                          have hcz76_2 : wc.cell? ⟨gb117, 2, none⟩ = some (.slice A0_2 l0_2.length c0_2) := (blk_cell BK117.out 2).trans rfl
                          have hcz76_3 : wc.cell? ⟨gb117, 3, none⟩ = some (.int .i64 a0_3) := (blk_cell BK117.out 3).trans rfl
                          have hcz76_4 : wc.cell? ⟨gb117, 4, none⟩ = some (.int .i64 a0_4) := (blk_cell BK117.out 4).trans rfl
                          have hcz76_5 : wc.cell? ⟨gb117, 5, none⟩ = some (.slice A0_5 l0_5.length c0_5) := (blk_cell BK117.out 5).trans rfl
                          have hfz76_0 := blk_frozen BK117.out 0
                          have hfz76_1 := blk_frozen BK117.out 1
                          have hfz76_2 := blk_frozen BK117.out 2
                          have hfz76_3 := blk_frozen BK117.out 3
                          have hfz76_4 := blk_frozen BK117.out 4
                          have hfz76_5 := blk_frozen BK117.out 5
                          go_wp2
                          go_ret
                          exact ⟨er_, be1_ HB GE117⟩
                        ·rw [if_neg c69] at H
                         have c69b0 : (a0_0 == 10) = false := beq_eq_false_iff_ne.mpr c69
                         have c69b1 : (a0_0 != 10) = true := bne_iff_ne.mpr c69
                         obtain rfl := Option.some.inj H
                         go_wp2
                         go_ret
                         exact ⟨er_, be1_ HB GE117⟩

end Go.Proofs.YtolpckflofjfhaaDoor.P
