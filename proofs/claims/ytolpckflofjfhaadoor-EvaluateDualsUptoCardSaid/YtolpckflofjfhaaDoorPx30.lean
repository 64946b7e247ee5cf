-- printed by wip/tools/xprint.py
import Derived.Test.YtolpckflofjfhaaDoorPx0
import Derived.Test.YtolpckflofjfhaaDoorPx12
import Derived.Test.YtolpckflofjfhaaDoorPx24
import Derived.Test.YtolpckflofjfhaaDoorPx27
namespace Go.Proofs.YtolpckflofjfhaaDoor.P
open Go.RowKit Go.Proofs.YtolpckflofjfhaaDoorW.PrintWords Go.Proofs.YtolpckflofjfhaaDoorW.PrintLast Go.Proofs.YtolpckflofjfhaaDoorW.PrintMore
attribute [local go_sem] max2_int min2_int max_two min_two max_three min_three max_four min_four
set_option linter.unusedVariables false
set_option maxHeartbeats 8000000
set_option maxRecDepth 100000
set_option linter.unusedSimpArgs false

mutual
def pentaglotlaw26_EvaluateDuals.j0 : Nat → Int → Int → Bool → List (S73) → List Int → Int → List (S62) → Int → ByteArray → List (S92) → Int → Int → List (S32) → Option (Bool)
 | 0, _, _, _, _, _, _, _, _, _, _, _, _, _ => none
 | k + 1, x2, x3, x48, x400000, x400001, x400002, x400003, x401000, x401001, x401002, x401003, x401004, x401005 => if x48 = true then (some false) else (if x401000 = 8 then (pentaglotlaw26_EvaluateDuals.j1 k x2 x3 ((x401005.length : Int) != 1) x400000 x400001 x400002 x400003 x401000 x401001 x401002 x401003 x401004 x401005) else (pentaglotlaw26_EvaluateDuals.j1 k x2 x3 true x400000 x400001 x400002 x400003 x401000 x401001 x401002 x401003 x401004 x401005))
def pentaglotlaw26_EvaluateDuals.j1 : Nat → Int → Int → Bool → List (S73) → List Int → Int → List (S62) → Int → ByteArray → List (S92) → Int → Int → List (S32) → Option (Bool)
 | 0, _, _, _, _, _, _, _, _, _, _, _, _, _ => none
 | k + 1, x2, x3, x57, x400000, x400001, x400002, x400003, x401000, x401001, x401002, x401003, x401004, x401005 => if x57 = true then (some true) else (if 0 < (x401005.length : Int) then ((pentaglotlaw26_kid.f 4 ((rd_T32 x401005 0).f0) ((rd_T32 x401005 0).f1) ((rd_T32 x401005 0).f2) ((rd_T32 x401005 0).f3) ((rd_T32 x401005 0).f4) ((rd_T32 x401005 0).f5)).bind fun bt448 => ((pentaglotlaw26_kid.f 9 bt448.1 bt448.2.1 bt448.2.2.1 bt448.2.2.2.1 bt448.2.2.2.2.1 bt448.2.2.2.2.2).bind fun bt458 => ((pentaglotlaw26_at.f k x400000 x400001 x400002 x400003 x401000 x401001 x401002 x401003 x401004 x401005 x2 x3).bind fun bt469 => ((pentaglotlaw26_kid.f 4 bt458.1 x401001 bt458.2.2.1 bt458.2.2.2.1 bt458.2.2.2.2.1 bt458.2.2.2.2.2).bind fun bt471 => ((pentaglotlaw26_at.f k x400000 x400001 x400002 x400003 bt471.1 bt471.2.1 bt471.2.2.1 bt471.2.2.2.1 bt471.2.2.2.2.1 bt471.2.2.2.2.2 x2 x3).bind fun bt481 => (if bt469.2 = true then (if bt481.2 = true then (some (bt469.1 == bt481.1)) else (some true)) else (some true))))))) else (none))
end
def pentaglotlaw26_EvaluateDuals.f (k : Nat) (l0_0 : List (S73)) (l0_1 : List Int) (a0_2 : Int) (l0_3 : List (S62)) (a1_0 : Int) (a1_1 : ByteArray) (l1_2 : List (S92)) (a1_3 : Int) (a1_4 : Int) (l1_5 : List (S32)) (a2 : Int) (a3 : Int) : Option (Bool) := (pentaglotlaw26_awake.f k).bind fun t401 => (if t401 = true then ((pentaglotref26_Light.f k l0_0 l0_1 a0_2 l0_3 a1_0 a1_1 l1_2 a1_3 a1_4 l1_5).bind fun t402 => (if t402 = true then ((pentaglotlaw26_kid.f 11 a1_0 a1_1 l1_2 a1_3 a1_4 l1_5).bind fun bt403 => ((pentaglotlaw26_at.f k l0_0 l0_1 a0_2 l0_3 bt403.1 bt403.2.1 bt403.2.2.1 bt403.2.2.2.1 bt403.2.2.2.2.1 bt403.2.2.2.2.2 a2 a3).bind fun bt413 => ((pentaglotlaw26_kid.f 4 a1_0 a1_1 l1_2 a1_3 a1_4 l1_5).bind fun bt415 => ((pentaglotlaw26_kid.f 12 bt415.1 bt415.2.1 bt415.2.2.1 bt415.2.2.2.1 bt415.2.2.2.2.1 bt415.2.2.2.2.2).bind fun bt425 => ((pentaglotlaw26_kid.f 4 bt425.1 bt425.2.1 bt425.2.2.1 bt425.2.2.2.1 bt425.2.2.2.2.1 bt425.2.2.2.2.2).bind fun bt435 => ((pentaglotlaw26_at.f k l0_0 l0_1 a0_2 l0_3 bt435.1 bt435.2.1 bt435.2.2.1 bt435.2.2.2.1 bt435.2.2.2.2.1 bt435.2.2.2.2.2 a2 a3).bind fun bt445 => (if bt413.2 = true then (if bt445.2 = true then (pentaglotlaw26_EvaluateDuals.j0 k a2 a3 (bt413.1 != bt445.1) l0_0 l0_1 a0_2 l0_3 a1_0 a1_1 l1_2 a1_3 a1_4 l1_5) else (pentaglotlaw26_EvaluateDuals.j0 k a2 a3 false l0_0 l0_1 a0_2 l0_3 a1_0 a1_1 l1_2 a1_3 a1_4 l1_5)) else (pentaglotlaw26_EvaluateDuals.j0 k a2 a3 false l0_0 l0_1 a0_2 l0_3 a1_0 a1_1 l1_2 a1_3 a1_4 l1_5)))))))) else (some true))) else (some false))
def pentaglotlaw26_EvaluateDuals.T5 : Bool × List (List Nat × List Nat) := (true, [([], []), ([], []), ([1], [1]), ([], []), ([], []), ([0, 2, 3, 4, 2], [0, 2, 3, 4]), ([5], [5]), ([6], [6]), ([6], [6]), ([7, 5, 0, 1, 2, 3, 4, 5, 6, 7], [7]), ([8, 9, 0, 1, 2, 3, 4, 5, 6, 7, 8, 9], [8])])
def pentaglotlaw26_EvaluateDuals.B5 : List Nat := [0, 0, 2, 0, 0, 31, 63, 127, 127, 255, 1023]
theorem pentaglotlaw26_EvaluateDuals.tab5 : rtab .any (opsOf Tryd.f7 5) = pentaglotlaw26_EvaluateDuals.T5 := by kernel_rfl
theorem pentaglotlaw26_EvaluateDuals.bits5 : waitsOk pentaglotlaw26_EvaluateDuals.T5.2 pentaglotlaw26_EvaluateDuals.B5 = true := by kernel_rfl
def pentaglotlaw26_EvaluateDuals.T6 : Bool × List (List Nat × List Nat) := (true, [([], []), ([], []), ([1], [1]), ([2, 2], [2]), ([3, 3], [3]), ([], []), ([], []), ([0, 4, 5, 6, 4], [0, 4, 5, 6]), ([7], [7]), ([8], [8]), ([8], [8]), ([9, 7, 0, 1, 2, 3, 4, 5, 6, 7, 8, 9], [9]), ([10, 11, 0, 1, 2, 3, 4, 5, 6, 7, 8, 9, 10, 11], [10])])
def pentaglotlaw26_EvaluateDuals.B6 : List Nat := [0, 0, 2, 6, 14, 0, 0, 127, 255, 511, 511, 1023, 4095]
theorem pentaglotlaw26_EvaluateDuals.tab6 : rtab .any (opsOf Tryd.f7 6) = pentaglotlaw26_EvaluateDuals.T6 := by kernel_rfl
theorem pentaglotlaw26_EvaluateDuals.bits6 : waitsOk pentaglotlaw26_EvaluateDuals.T6.2 pentaglotlaw26_EvaluateDuals.B6 = true := by kernel_rfl
def pentaglotlaw26_EvaluateDuals.T14 : Bool × List (List Nat × List Nat) := (true, [([], []), ([], []), ([1], [1]), ([], []), ([], []), ([0, 2, 3, 4, 2], [0, 2, 3, 4]), ([5], [5]), ([6], [6]), ([6], [6]), ([7, 5, 0, 1, 2, 3, 4, 5, 6, 7], [7]), ([8, 9, 0, 1, 2, 3, 4, 5, 6, 7, 8, 9], [8])])
def pentaglotlaw26_EvaluateDuals.B14 : List Nat := [0, 0, 2, 0, 0, 31, 63, 127, 127, 255, 1023]
theorem pentaglotlaw26_EvaluateDuals.tab14 : rtab .any (opsOf Tryd.f7 14) = pentaglotlaw26_EvaluateDuals.T14 := by kernel_rfl
theorem pentaglotlaw26_EvaluateDuals.bits14 : waitsOk pentaglotlaw26_EvaluateDuals.T14.2 pentaglotlaw26_EvaluateDuals.B14 = true := by kernel_rfl
theorem pentaglotlaw26_EvaluateDuals.calls (k : Nat) (A0_0 : Option Addr) (c0_0 : Nat) (l0_0 : List (S73)) (A0_1 : Option Addr) (c0_1 : Nat) (l0_1 : List Int) (a0_2 : Int) (A0_3 : Option Addr) (c0_3 : Nat) (l0_3 : List (S62)) (a1_0 : Int) (a1_1 : ByteArray) (A1_2 : Option Addr) (c1_2 : Nat) (l1_2 : List (S92)) (a1_3 : Int) (a1_4 : Int) (A1_5 : Option Addr) (c1_5 : Nat) (l1_5 : List (S32)) (a2 : Int) (a3 : Int) (r : Bool) (w : World) (hr0_0 : Kd.C k73 w A0_0 l0_0.length l0_0) (hc0_0 : l0_0.length ≤ c0_0) (hr0_1 : Kd.C (Kd.int .i64) w A0_1 l0_1.length l0_1) (hc0_1 : l0_1.length ≤ c0_1) (hr0_3 : Kd.C k62 w A0_3 l0_3.length l0_3) (hc0_3 : l0_3.length ≤ c0_3) (hr1_2 : Kd.C k92 w A1_2 l1_2.length l1_2) (hc1_2 : l1_2.length ≤ c1_2) (hr1_5 : Kd.C k32 w A1_5 l1_5.length l1_5) (hc1_5 : l1_5.length ≤ c1_5) (h : pentaglotlaw26_EvaluateDuals.f k l0_0 l0_1 a0_2 l0_3 a1_0 a1_1 l1_2 a1_3 a1_4 l1_5 a2 a3 = some r) (htb : Tb w) :
  Calls Tryd.prog 7 #[.agg #[.slice A0_0 l0_0.length c0_0, .slice A0_1 l0_1.length c0_1, .int .i64 a0_2, .slice A0_3 l0_3.length c0_3], .agg #[.int .i64 a1_0, .string a1_1, .slice A1_2 l1_2.length c1_2, .int .i64 a1_3, .int .i64 a1_4, .slice A1_5 l1_5.length c1_5], .int .i64 a2, .int .i64 a3] w fun e w' => e = .returned (.bool r) ∧ Below w.heap.size w w' := by
 have HTB := mk_ htb
 clear htb
 have hu28 := Tryd.underlying28
 have hu32 := Tryd.underlying32
 have HR0_0 := mk_ hr0_0
 have HC0_0 := mk_ hc0_0
 clear hr0_0 hc0_0
 have HR0_1 := mk_ hr0_1
 have HC0_1 := mk_ hc0_1
 clear hr0_1 hc0_1
 have HR0_3 := mk_ hr0_3
 have HC0_3 := mk_ hc0_3
 clear hr0_3 hc0_3
 have HR1_2 := mk_ hr1_2
 have HC1_2 := mk_ hc1_2
 clear hr1_2 hc1_2
 have HR1_5 := mk_ hr1_5
 have HC1_5 := mk_ hc1_5
 clear hr1_5 hc1_5
 have HB := mk_ (Below.refl w.heap.size w)
 have H : ((pentaglotlaw26_awake.f k).bind fun t401 => (if t401 = true then ((pentaglotref26_Light.f k l0_0 l0_1 a0_2 l0_3 a1_0 a1_1 l1_2 a1_3 a1_4 l1_5).bind fun t402 => (if t402 = true then ((pentaglotlaw26_kid.f 11 a1_0 a1_1 l1_2 a1_3 a1_4 l1_5).bind fun bt403 => ((pentaglotlaw26_at.f k l0_0 l0_1 a0_2 l0_3 bt403.1 bt403.2.1 bt403.2.2.1 bt403.2.2.2.1 bt403.2.2.2.2.1 bt403.2.2.2.2.2 a2 a3).bind fun bt413 => ((pentaglotlaw26_kid.f 4 a1_0 a1_1 l1_2 a1_3 a1_4 l1_5).bind fun bt415 => ((pentaglotlaw26_kid.f 12 bt415.1 bt415.2.1 bt415.2.2.1 bt415.2.2.2.1 bt415.2.2.2.2.1 bt415.2.2.2.2.2).bind fun bt425 => ((pentaglotlaw26_kid.f 4 bt425.1 bt425.2.1 bt425.2.2.1 bt425.2.2.2.1 bt425.2.2.2.2.1 bt425.2.2.2.2.2).bind fun bt435 => ((pentaglotlaw26_at.f k l0_0 l0_1 a0_2 l0_3 bt435.1 bt435.2.1 bt435.2.2.1 bt435.2.2.2.1 bt435.2.2.2.2.1 bt435.2.2.2.2.2 a2 a3).bind fun bt445 => (if bt413.2 = true then (if bt445.2 = true then (pentaglotlaw26_EvaluateDuals.j0 k a2 a3 (bt413.1 != bt445.1) l0_0 l0_1 a0_2 l0_3 a1_0 a1_1 l1_2 a1_3 a1_4 l1_5) else (pentaglotlaw26_EvaluateDuals.j0 k a2 a3 false l0_0 l0_1 a0_2 l0_3 a1_0 a1_1 l1_2 a1_3 a1_4 l1_5)) else (pentaglotlaw26_EvaluateDuals.j0 k a2 a3 false l0_0 l0_1 a0_2 l0_3 a1_0 a1_1 l1_2 a1_3 a1_4 l1_5)))))))) else (some true))) else (some false))) = some r := h
 clear h
 replace H := Option.bind_eq_some_iff.mp H
 obtain ⟨t401, A50, H⟩ := H
 replace H : (if t401 = true then ((pentaglotref26_Light.f k l0_0 l0_1 a0_2 l0_3 a1_0 a1_1 l1_2 a1_3 a1_4 l1_5).bind fun t402 => (if t402 = true then ((pentaglotlaw26_kid.f 11 a1_0 a1_1 l1_2 a1_3 a1_4 l1_5).bind fun bt403 => ((pentaglotlaw26_at.f k l0_0 l0_1 a0_2 l0_3 bt403.1 bt403.2.1 bt403.2.2.1 bt403.2.2.2.1 bt403.2.2.2.2.1 bt403.2.2.2.2.2 a2 a3).bind fun bt413 => ((pentaglotlaw26_kid.f 4 a1_0 a1_1 l1_2 a1_3 a1_4 l1_5).bind fun bt415 => ((pentaglotlaw26_kid.f 12 bt415.1 bt415.2.1 bt415.2.2.1 bt415.2.2.2.1 bt415.2.2.2.2.1 bt415.2.2.2.2.2).bind fun bt425 => ((pentaglotlaw26_kid.f 4 bt425.1 bt425.2.1 bt425.2.2.1 bt425.2.2.2.1 bt425.2.2.2.2.1 bt425.2.2.2.2.2).bind fun bt435 => ((pentaglotlaw26_at.f k l0_0 l0_1 a0_2 l0_3 bt435.1 bt435.2.1 bt435.2.2.1 bt435.2.2.2.1 bt435.2.2.2.2.1 bt435.2.2.2.2.2 a2 a3).bind fun bt445 => (if bt413.2 = true then (if bt445.2 = true then (pentaglotlaw26_EvaluateDuals.j0 k a2 a3 (bt413.1 != bt445.1) l0_0 l0_1 a0_2 l0_3 a1_0 a1_1 l1_2 a1_3 a1_4 l1_5) else (pentaglotlaw26_EvaluateDuals.j0 k a2 a3 false l0_0 l0_1 a0_2 l0_3 a1_0 a1_1 l1_2 a1_3 a1_4 l1_5)) else (pentaglotlaw26_EvaluateDuals.j0 k a2 a3 false l0_0 l0_1 a0_2 l0_3 a1_0 a1_1 l1_2 a1_3 a1_4 l1_5)))))))) else (some true))) else (some false)) = some r := H
 have A5 := mk_ A50
 clear A50
 by_cases c6 : t401 = true
 ·subst c6
  rw [if_pos rfl] at H
  replace H := Option.bind_eq_some_iff.mp H
  obtain ⟨t402, A70, H⟩ := H
  replace H : (if t402 = true then ((pentaglotlaw26_kid.f 11 a1_0 a1_1 l1_2 a1_3 a1_4 l1_5).bind fun bt403 => ((pentaglotlaw26_at.f k l0_0 l0_1 a0_2 l0_3 bt403.1 bt403.2.1 bt403.2.2.1 bt403.2.2.2.1 bt403.2.2.2.2.1 bt403.2.2.2.2.2 a2 a3).bind fun bt413 => ((pentaglotlaw26_kid.f 4 a1_0 a1_1 l1_2 a1_3 a1_4 l1_5).bind fun bt415 => ((pentaglotlaw26_kid.f 12 bt415.1 bt415.2.1 bt415.2.2.1 bt415.2.2.2.1 bt415.2.2.2.2.1 bt415.2.2.2.2.2).bind fun bt425 => ((pentaglotlaw26_kid.f 4 bt425.1 bt425.2.1 bt425.2.2.1 bt425.2.2.2.1 bt425.2.2.2.2.1 bt425.2.2.2.2.2).bind fun bt435 => ((pentaglotlaw26_at.f k l0_0 l0_1 a0_2 l0_3 bt435.1 bt435.2.1 bt435.2.2.1 bt435.2.2.2.1 bt435.2.2.2.2.1 bt435.2.2.2.2.2 a2 a3).bind fun bt445 => (if bt413.2 = true then (if bt445.2 = true then (pentaglotlaw26_EvaluateDuals.j0 k a2 a3 (bt413.1 != bt445.1) l0_0 l0_1 a0_2 l0_3 a1_0 a1_1 l1_2 a1_3 a1_4 l1_5) else (pentaglotlaw26_EvaluateDuals.j0 k a2 a3 false l0_0 l0_1 a0_2 l0_3 a1_0 a1_1 l1_2 a1_3 a1_4 l1_5)) else (pentaglotlaw26_EvaluateDuals.j0 k a2 a3 false l0_0 l0_1 a0_2 l0_3 a1_0 a1_1 l1_2 a1_3 a1_4 l1_5)))))))) else (some true)) = some r := H
  have A7 := mk_ A70
  clear A70
  by_cases c8 : t402 = true
  ·subst c8
   rw [if_pos rfl] at H
   replace H := Option.bind_eq_some_iff.mp H
   obtain ⟨⟨t403, t404, t405, t408, t409, t410⟩, A90, H⟩ := H
   replace H : ((pentaglotlaw26_at.f k l0_0 l0_1 a0_2 l0_3 t403 t404 t405 t408 t409 t410 a2 a3).bind fun bt413 => ((pentaglotlaw26_kid.f 4 a1_0 a1_1 l1_2 a1_3 a1_4 l1_5).bind fun bt415 => ((pentaglotlaw26_kid.f 12 bt415.1 bt415.2.1 bt415.2.2.1 bt415.2.2.2.1 bt415.2.2.2.2.1 bt415.2.2.2.2.2).bind fun bt425 => ((pentaglotlaw26_kid.f 4 bt425.1 bt425.2.1 bt425.2.2.1 bt425.2.2.2.1 bt425.2.2.2.2.1 bt425.2.2.2.2.2).bind fun bt435 => ((pentaglotlaw26_at.f k l0_0 l0_1 a0_2 l0_3 bt435.1 bt435.2.1 bt435.2.2.1 bt435.2.2.2.1 bt435.2.2.2.2.1 bt435.2.2.2.2.2 a2 a3).bind fun bt445 => (if bt413.2 = true then (if bt445.2 = true then (pentaglotlaw26_EvaluateDuals.j0 k a2 a3 (bt413.1 != bt445.1) l0_0 l0_1 a0_2 l0_3 a1_0 a1_1 l1_2 a1_3 a1_4 l1_5) else (pentaglotlaw26_EvaluateDuals.j0 k a2 a3 false l0_0 l0_1 a0_2 l0_3 a1_0 a1_1 l1_2 a1_3 a1_4 l1_5)) else (pentaglotlaw26_EvaluateDuals.j0 k a2 a3 false l0_0 l0_1 a0_2 l0_3 a1_0 a1_1 l1_2 a1_3 a1_4 l1_5))))))) = some r := H
   have A9 := mk_ A90
   clear A90
   replace H := Option.bind_eq_some_iff.mp H
   obtain ⟨⟨t413, t414⟩, A100, H⟩ := H
   replace H : ((pentaglotlaw26_kid.f 4 a1_0 a1_1 l1_2 a1_3 a1_4 l1_5).bind fun bt415 => ((pentaglotlaw26_kid.f 12 bt415.1 bt415.2.1 bt415.2.2.1 bt415.2.2.2.1 bt415.2.2.2.2.1 bt415.2.2.2.2.2).bind fun bt425 => ((pentaglotlaw26_kid.f 4 bt425.1 bt425.2.1 bt425.2.2.1 bt425.2.2.2.1 bt425.2.2.2.2.1 bt425.2.2.2.2.2).bind fun bt435 => ((pentaglotlaw26_at.f k l0_0 l0_1 a0_2 l0_3 bt435.1 bt435.2.1 bt435.2.2.1 bt435.2.2.2.1 bt435.2.2.2.2.1 bt435.2.2.2.2.2 a2 a3).bind fun bt445 => (if t414 = true then (if bt445.2 = true then (pentaglotlaw26_EvaluateDuals.j0 k a2 a3 (t413 != bt445.1) l0_0 l0_1 a0_2 l0_3 a1_0 a1_1 l1_2 a1_3 a1_4 l1_5) else (pentaglotlaw26_EvaluateDuals.j0 k a2 a3 false l0_0 l0_1 a0_2 l0_3 a1_0 a1_1 l1_2 a1_3 a1_4 l1_5)) else (pentaglotlaw26_EvaluateDuals.j0 k a2 a3 false l0_0 l0_1 a0_2 l0_3 a1_0 a1_1 l1_2 a1_3 a1_4 l1_5)))))) = some r := H
   have A10 := mk_ A100
   clear A100
   replace H := Option.bind_eq_some_iff.mp H
   obtain ⟨⟨t415, t416, t417, t420, t421, t422⟩, A110, H⟩ := H
   replace H : ((pentaglotlaw26_kid.f 12 t415 t416 t417 t420 t421 t422).bind fun bt425 => ((pentaglotlaw26_kid.f 4 bt425.1 bt425.2.1 bt425.2.2.1 bt425.2.2.2.1 bt425.2.2.2.2.1 bt425.2.2.2.2.2).bind fun bt435 => ((pentaglotlaw26_at.f k l0_0 l0_1 a0_2 l0_3 bt435.1 bt435.2.1 bt435.2.2.1 bt435.2.2.2.1 bt435.2.2.2.2.1 bt435.2.2.2.2.2 a2 a3).bind fun bt445 => (if t414 = true then (if bt445.2 = true then (pentaglotlaw26_EvaluateDuals.j0 k a2 a3 (t413 != bt445.1) l0_0 l0_1 a0_2 l0_3 a1_0 a1_1 l1_2 a1_3 a1_4 l1_5) else (pentaglotlaw26_EvaluateDuals.j0 k a2 a3 false l0_0 l0_1 a0_2 l0_3 a1_0 a1_1 l1_2 a1_3 a1_4 l1_5)) else (pentaglotlaw26_EvaluateDuals.j0 k a2 a3 false l0_0 l0_1 a0_2 l0_3 a1_0 a1_1 l1_2 a1_3 a1_4 l1_5))))) = some r := H
   have A11 := mk_ A110
   clear A110
   replace H := Option.bind_eq_some_iff.mp H
   obtain ⟨⟨t425, t426, t427, t430, t431, t432⟩, A120, H⟩ := H
   replace H : ((pentaglotlaw26_kid.f 4 t425 t426 t427 t430 t431 t432).bind fun bt435 => ((pentaglotlaw26_at.f k l0_0 l0_1 a0_2 l0_3 bt435.1 bt435.2.1 bt435.2.2.1 bt435.2.2.2.1 bt435.2.2.2.2.1 bt435.2.2.2.2.2 a2 a3).bind fun bt445 => (if t414 = true then (if bt445.2 = true then (pentaglotlaw26_EvaluateDuals.j0 k a2 a3 (t413 != bt445.1) l0_0 l0_1 a0_2 l0_3 a1_0 a1_1 l1_2 a1_3 a1_4 l1_5) else (pentaglotlaw26_EvaluateDuals.j0 k a2 a3 false l0_0 l0_1 a0_2 l0_3 a1_0 a1_1 l1_2 a1_3 a1_4 l1_5)) else (pentaglotlaw26_EvaluateDuals.j0 k a2 a3 false l0_0 l0_1 a0_2 l0_3 a1_0 a1_1 l1_2 a1_3 a1_4 l1_5)))) = some r := H
   have A12 := mk_ A120
   clear A120
   replace H := Option.bind_eq_some_iff.mp H
   obtain ⟨⟨t435, t436, t437, t440, t441, t442⟩, A130, H⟩ := H
   replace H : ((pentaglotlaw26_at.f k l0_0 l0_1 a0_2 l0_3 t435 t436 t437 t440 t441 t442 a2 a3).bind fun bt445 => (if t414 = true then (if bt445.2 = true then (pentaglotlaw26_EvaluateDuals.j0 k a2 a3 (t413 != bt445.1) l0_0 l0_1 a0_2 l0_3 a1_0 a1_1 l1_2 a1_3 a1_4 l1_5) else (pentaglotlaw26_EvaluateDuals.j0 k a2 a3 false l0_0 l0_1 a0_2 l0_3 a1_0 a1_1 l1_2 a1_3 a1_4 l1_5)) else (pentaglotlaw26_EvaluateDuals.j0 k a2 a3 false l0_0 l0_1 a0_2 l0_3 a1_0 a1_1 l1_2 a1_3 a1_4 l1_5))) = some r := H
   have A13 := mk_ A130
   clear A130
   replace H := Option.bind_eq_some_iff.mp H
   obtain ⟨⟨t445, t446⟩, A140, H⟩ := H
   replace H : (if t414 = true then (if t446 = true then (pentaglotlaw26_EvaluateDuals.j0 k a2 a3 (t413 != t445) l0_0 l0_1 a0_2 l0_3 a1_0 a1_1 l1_2 a1_3 a1_4 l1_5) else (pentaglotlaw26_EvaluateDuals.j0 k a2 a3 false l0_0 l0_1 a0_2 l0_3 a1_0 a1_1 l1_2 a1_3 a1_4 l1_5)) else (pentaglotlaw26_EvaluateDuals.j0 k a2 a3 false l0_0 l0_1 a0_2 l0_3 a1_0 a1_1 l1_2 a1_3 a1_4 l1_5)) = some r := H
   have A14 := mk_ A140
   clear A140
   have HC15 := mk_ H
   clear H
   go_enter Tryd.func7, Tryd.ntmps7
   try go_wp2_with (first | ((with_reducible refine gate_dst (N := 4) rfl ?_); (try (refine gate_guard (by rfl) ?_; dsimp only)); refine bx_ 4 #[.slice A0_0 l0_0.length c0_0, .slice A0_1 l0_1.length c0_1, .int .i64 a0_2, .slice A0_3 l0_3.length c0_3] 28 ?_; intro gb399 hg w16 hbox hb; have BK399 := mk_ (hbox); have GW399 := mk_ (gs_ hg (be_ HB)); have GE399 := mk_ (gs_ hg (be_ HB)); replace HB := mk_ (below_step (be_ HB) hb); clear hb hbox hg) | ((with_reducible refine gate_dst (N := 5) rfl ?_); (try (refine gate_guard (by rfl) ?_; dsimp only)); refine bx_ 5 #[.int .i64 a1_0, .string a1_1, .slice A1_2 l1_2.length c1_2, .int .i64 a1_3, .int .i64 a1_4, .slice A1_5 l1_5.length c1_5] 32 ?_; intro gb400 hg w17 hbox hb; have n0_ := mk_ (bb_ BK399 hb); have n1_ := mk_ (below_step (be1_ HB GE399) hb); have n2_ := mk_ (hbox); have n3_ := mk_ (gs_ hg (be1_ HB GE399)); have n4_ := mk_ (gs_ hg (be1_ HB GE399)); have n5_ := mk_ ((by rw [hg]; exact Nat.ne_of_lt (blk_lt (g := gb399) (o := .cells #[.slice A0_0 l0_0.length c0_0, .slice A0_1 l0_1.length c0_1, .int .i64 a0_2, .slice A0_3 l0_3.length c0_3] 28 (0, 0)) (bq_ BK399)) : gb399 ≠ gb400)); have n6_ := mk_ ((by rw [hg]; exact Nat.ne_of_gt (blk_lt (g := gb399) (o := .cells #[.slice A0_0 l0_0.length c0_0, .slice A0_1 l0_1.length c0_1, .int .i64 a0_2, .slice A0_3 l0_3.length c0_3] 28 (0, 0)) (bq_ BK399)) : gb400 ≠ gb399)); clear BK399; clear HB; have BK399 := n0_; have HB := n1_; have BK400 := n2_; have GW400 := n3_; have GE400 := n4_; have NB399_400 := n5_; have NB400_399 := n6_; clear n0_ n1_ n2_ n3_ n4_ n5_ n6_; clear hb hbox hg) | ((with_reducible refine gate_callee (f := 12) rfl ?_); refine gl_ (some 14) Tryd.func12 #[] ?_; (with_reducible refine (pentaglotlaw26_awake.calls k  true _ A5.out (tb_on HTB.out (be2_ HB GE399 GE400))).mono ?_); rintro e w18 ⟨rfl, hb⟩; refine ⟨_, rfl, ?_⟩; replace BK399 := mk_ (bb_ BK399 hb); replace BK400 := mk_ (bb_ BK400 hb); replace HB := mk_ (below_step (be2_ HB GE399 GE400) hb); (try clear hb); (try clear hb2); (try clear hk); (try clear hi); have hnb19 := NB399_400.out; have hnc19 := NB400_399.out; obtain ⟨_, _, _, _, _, _, _, _⟩ := hb4_ BK399; obtain ⟨_, _, _, _, _, _, _, _, _, _, _, _⟩ := hb6_ BK400) | ((with_reducible refine gate_callee (f := 13) rfl ?_); refine gl_ (some 18) Tryd.func13 #[.agg #[.slice A0_0 l0_0.length c0_0, .slice A0_1 l0_1.length c0_1, .int .i64 a0_2, .slice A0_3 l0_3.length c0_3], .agg #[.int .i64 a1_0, .string a1_1, .slice A1_2 l1_2.length c1_2, .int .i64 a1_3, .int .i64 a1_4, .slice A1_5 l1_5.length c1_5]] ?_; (with_reducible refine (pentaglotref26_Light.calls k _ _ l0_0 _ _ l0_1 a0_2 _ _ l0_3 a1_0 a1_1 _ _ l1_2 a1_3 a1_4 _ _ l1_5 true _ ?side1 ?side2 ?side3 ?side4 ?side5 ?side6 ?side7 ?side8 ?side9 ?side10 A7.out).mono ?_); (case side1 => exact cs_ (Kd.C_below HR0_0.out HB.out)); (case side2 => exact HC0_0.out); (case side3 => exact cs_ (Kd.C_below HR0_1.out HB.out)); (case side4 => exact HC0_1.out); (case side5 => exact cs_ (Kd.C_below HR0_3.out HB.out)); (case side6 => exact HC0_3.out); (case side7 => exact cs_ (Kd.C_below HR1_2.out HB.out)); (case side8 => exact HC1_2.out); (case side9 => exact cs_ (Kd.C_below HR1_5.out HB.out)); (case side10 => exact HC1_5.out); rintro e w22 ⟨rfl, hb⟩; refine ⟨_, rfl, ?_⟩; replace BK399 := mk_ (bb_ BK399 hb); replace BK400 := mk_ (bb_ BK400 hb); replace HB := mk_ (below_step (be2_ HB GE399 GE400) hb); (try clear hb); (try clear hb2); (try clear hk); (try clear hi)))
   have n0_ := mk_ (blk_drew BK399.out)
   have n1_ := mk_ (blk_drew BK400.out)
   have n2_ := mk_ (below_drew1 HB.out)
   clear BK399
   clear BK400
   clear HB
   have BK399 := n0_
   have BK400 := n1_
   have HB := n2_
   clear n0_ n1_ n2_
   refine start_ (n := 11) (S := fun w' => w'.cell? ⟨gb399, 0, none⟩ = some (.slice A0_0 l0_0.length c0_0) ∧ w'.cell? ⟨gb399, 1, none⟩ = some (.slice A0_1 l0_1.length c0_1) ∧ w'.cell? ⟨gb399, 2, none⟩ = some (.int .i64 a0_2) ∧ w'.cell? ⟨gb399, 3, none⟩ = some (.slice A0_3 l0_3.length c0_3) ∧ w'.cell? ⟨gb400, 0, none⟩ = some (.int .i64 a1_0) ∧ w'.cell? ⟨gb400, 1, none⟩ = some (.string a1_1) ∧ w'.cell? ⟨gb400, 2, none⟩ = some (.slice A1_2 l1_2.length c1_2) ∧ w'.cell? ⟨gb400, 3, none⟩ = some (.int .i64 a1_3) ∧ w'.cell? ⟨gb400, 4, none⟩ = some (.int .i64 a1_4) ∧ w'.cell? ⟨gb400, 5, none⟩ = some (.slice A1_5 l1_5.length c1_5)) (ds := []) #[false, false, false, false, false, false, false, false, false, false, false] (by kernel_rfl) rfl rfl ⟨(blk_cell BK399.out 0).trans rfl, (blk_cell BK399.out 1).trans rfl, (blk_cell BK399.out 2).trans rfl, (blk_cell BK399.out 3).trans rfl, (blk_cell BK400.out 0).trans rfl, (blk_cell BK400.out 1).trans rfl, (blk_cell BK400.out 2).trans rfl, (blk_cell BK400.out 3).trans rfl, (blk_cell BK400.out 4).trans rfl, (blk_cell BK400.out 5).trans rfl⟩ (fun hHeld => ?_); refine with_tabW pentaglotlaw26_EvaluateDuals.tab5 pentaglotlaw26_EvaluateDuals.bits5 (fun HT_ HW_ => ?_)
   generalize w22.drew = w23 at BK399 BK400 HB hHeld ⊢
   refine pu_ 3 (some 24) ?_
   refine pu_ 4 (some 25) ?_
   refine tk_ 0 (some 21) hHeld ?_
   refine tk_ 1 (some 22) hHeld ?_
   refine on_ 2 (some 23) (fun K hK => ?_)
   refine goes_ Tryd.func26 (by kernel_rfl) rfl #[.int .i64 11, .agg #[.int .i64 a1_0, .string a1_1, .slice A1_2 l1_2.length c1_2, .int .i64 a1_3, .int .i64 a1_4, .slice A1_5 l1_5.length c1_5]] (by rfl) rfl rfl (by (try simp only [List.map_toArray, List.map_cons, List.map_nil]); first | done | rfl | (simp only [List.length_drop, List.length_take]; rfl)) ?_
   with_reducible refine (pentaglotlaw26_kid.calls 11 a1_0 a1_1 (fun k_ => k_ < w.heap.size) _ _ l1_2 a1_3 a1_4 (fun k_ => k_ < w.heap.size) _ _ l1_5 t403 t404 t405 t408 t409 t410 _ ?side1 ?side2 A9.out).mono ?_
   (case side1 => exact Kd.V_mk HC1_2.out (Kd.F_below (Kd.C_F k92_heap HR1_2.out) (be2_ HB GE399 GE400)))
   (case side2 => exact Kd.V_mk HC1_5.out (Kd.F_below (Kd.C_F k32_heap HR1_5.out) (be2_ HB GE399 GE400)))
   rintro e w24 ⟨v406, v411, rfl, ho0, ho1, hb⟩
   refine ⟨_, rfl, ?_⟩
   have n0_ := mk_ (Kd.R_lower (Kd.R_mono (ok' := fun k_ => True) ho0 (fun _ hk_ => trivial)) (below_size (be2_ HB GE399 GE400)))
   have n1_ := mk_ (Kd.N_lower (Kd.N_mono (ok' := fun k_ => some k_ ≠ (v406 : Value).ownBlock ∧ k_ ≠ gb399 ∧ k_ ≠ gb400) ho1 (fun k_ hk_ => ⟨hk_.2, Or.elim hk_.1 (fun hs_ => Or.elim hs_ (fun hs_ => fun e_ => Nat.not_le.2 hs_ (by rw [e_]; exact GW399.out)) (fun hs_ => fun e_ => Nat.not_le.2 hs_ (by rw [e_]; exact GW399.out))) (fun hn_ => (Kd.freshB (g := gb399) (o := .cells #[.slice A0_0 l0_0.length c0_0, .slice A0_1 l0_1.length c0_1, .int .i64 a0_2, .slice A0_3 l0_3.length c0_3] 28 (0, 0)) (bq_ BK399) k_ hn_)), Or.elim hk_.1 (fun hs_ => Or.elim hs_ (fun hs_ => fun e_ => Nat.not_le.2 hs_ (by rw [e_]; exact GW400.out)) (fun hs_ => fun e_ => Nat.not_le.2 hs_ (by rw [e_]; exact GW400.out))) (fun hn_ => (Kd.freshB (g := gb400) (o := .cells #[.int .i64 a1_0, .string a1_1, .slice A1_2 l1_2.length c1_2, .int .i64 a1_3, .int .i64 a1_4, .slice A1_5 l1_5.length c1_5] 32 (0, 0)) (bq_ BK400) k_ hn_))⟩)) (below_size (be2_ HB GE399 GE400)))
   have n2_ := mk_ (blk_below (g := gb399) (o := .cells #[.slice A0_0 l0_0.length c0_0, .slice A0_1 l0_1.length c0_1, .int .i64 a0_2, .slice A0_3 l0_3.length c0_3] 28 (0, 0)) (bq_ BK399) hb)
   have n3_ := mk_ (bb_ BK400 hb)
   have n4_ := mk_ (below_step (be2_ HB GE399 GE400) hb)
   clear BK399
   clear BK400
   clear HB
   have HO407 := n0_
   have HO412 := n1_
   have BK399 := n2_
   have BK400 := n3_
   have HB := n4_
   clear n0_ n1_ n2_ n3_ n4_
   (try clear hb)
   (try clear hb2)
   (try clear hk)
   (try clear hi)
   (try clear ho0)
   (try clear ho1)
   obtain ⟨Ao25, co25, eo25⟩ := Kd.R_slice HO407.out
   (first | subst eo25 | (injection eo25 with f1_ f2_ f3_; have f4_ := f1_.symm; have f5_ := f3_.symm; clear f1_ f2_ f3_; subst f4_; subst f5_))
   obtain ⟨Ao26, co26, eo26⟩ := Kd.N_slice HO412.out
   (first | subst eo26 | (injection eo26 with f1_ f2_ f3_; have f4_ := f1_.symm; have f5_ := f3_.symm; clear f1_ f2_ f3_; subst f4_; subst f5_))
   refine hK.out _ _ ⟨(blk_cell BK399.out 0).trans rfl, (blk_cell BK399.out 1).trans rfl, (blk_cell BK399.out 2).trans rfl, (blk_cell BK399.out 3).trans rfl, (blk_cell BK400.out 0).trans rfl, (blk_cell BK400.out 1).trans rfl, (blk_cell BK400.out 2).trans rfl, (blk_cell BK400.out 3).trans rfl, (blk_cell BK400.out 4).trans rfl, (blk_cell BK400.out 5).trans rfl⟩ (fun hHeld => ?_)
   clear hK K
   refine no_ (N := some 23) ?_
   refine on_ 5 (some 26) (fun K hK => ?_)
   refine goes_ Tryd.func20 (by kernel_rfl) rfl #[.agg #[.slice A0_0 l0_0.length c0_0, .slice A0_1 l0_1.length c0_1, .int .i64 a0_2, .slice A0_3 l0_3.length c0_3], .agg #[.int .i64 t403, .string t404, .slice Ao25 t405.length co25, .int .i64 t408, .int .i64 t409, .slice Ao26 t410.length co26], .int .i64 a2, .int .i64 a3] (by rfl) rfl rfl (by (try simp only [List.map_toArray, List.map_cons, List.map_nil]); first | done | rfl | (simp only [List.length_drop, List.length_take]; rfl)) ?_
   with_reducible refine (pentaglotlaw26_at.calls k _ _ l0_0 _ _ l0_1 a0_2 _ _ l0_3 t403 t404 _ _ t405 t408 t409 _ _ t410 a2 a3 t413 t414 _ ?side1 ?side2 ?side3 ?side4 ?side5 ?side6 ?side7 ?side8 ?side9 ?side10 A10.out (tb_on HTB.out (be2_ HB GE399 GE400))).mono ?_
   (case side1 => exact cs_ (Kd.C_below HR0_0.out HB.out))
   (case side2 => exact HC0_0.out)
   (case side3 => exact cs_ (Kd.C_below HR0_1.out HB.out))
   (case side4 => exact HC0_1.out)
   (case side5 => exact cs_ (Kd.C_below HR0_3.out HB.out))
   (case side6 => exact HC0_3.out)
   (case side7 => repeat (first | exact (Kd.R_reads' HO407.out).2.2 | (with_reducible refine Kd.C_alloc ?_ _) | (with_reducible refine Kd.C_drewN ?_ _) | (with_reducible refine Kd.C_drew ?_)))
   (case side8 => exact (Kd.R_reads' HO407.out).2.1)
   (case side9 => repeat (first | exact (Kd.N_reads' HO412.out).2.2 | (with_reducible refine Kd.C_alloc ?_ _) | (with_reducible refine Kd.C_drewN ?_ _) | (with_reducible refine Kd.C_drew ?_)))
   (case side10 => exact (Kd.N_reads' HO412.out).2.1)
   rintro e w27 ⟨rfl, hb⟩
   refine ⟨_, rfl, ?_⟩
   have n0_ := mk_ (Kd.R_below (rq_ HO407) hb)
   have n1_ := mk_ (Kd.N_below (nq_ HO412) hb)
   have n2_ := mk_ (blk_below (g := gb399) (o := .cells #[.slice A0_0 l0_0.length c0_0, .slice A0_1 l0_1.length c0_1, .int .i64 a0_2, .slice A0_3 l0_3.length c0_3] 28 (0, 0)) (bq_ BK399) hb)
   have n3_ := mk_ (bb_ BK400 hb)
   have n4_ := mk_ (below_step (be2_ HB GE399 GE400) hb)
   clear HO407
   clear HO412
   clear BK399
   clear BK400
   clear HB
   have HO407 := n0_
   have HO412 := n1_
   have BK399 := n2_
   have BK400 := n3_
   have HB := n4_
   clear n0_ n1_ n2_ n3_ n4_
   (try clear hb)
   (try clear hb2)
   (try clear hk)
   (try clear hi)
   refine hK.out _ _ ⟨(blk_cell BK399.out 0).trans rfl, (blk_cell BK399.out 1).trans rfl, (blk_cell BK399.out 2).trans rfl, (blk_cell BK399.out 3).trans rfl, (blk_cell BK400.out 0).trans rfl, (blk_cell BK400.out 1).trans rfl, (blk_cell BK400.out 2).trans rfl, (blk_cell BK400.out 3).trans rfl, (blk_cell BK400.out 4).trans rfl, (blk_cell BK400.out 5).trans rfl⟩ (fun hHeld => ?_)
   clear hK K
   refine no_ (N := some 26) ?_
   refine pu_ 6 (some 20) ?_
   refine pu_ 7 (some 27) ?_
   refine pu_ 8 (some 28) ?_
   refine pu_ 9 (some 9) ?_
   refine pu_ 10 (some 10) ?_
   refine done_ (done_of HT_.out (by kernel_rfl)) ?_
   try go_wp2
   have n0_ := mk_ (Kd.R_drew HO407.out)
   have n1_ := mk_ (Kd.N_drew HO412.out)
   have n2_ := mk_ (blk_drew BK399.out)
   have n3_ := mk_ (blk_drew BK400.out)
   have n4_ := mk_ (below_drew1 HB.out)
   clear HO407
   clear HO412
   clear BK399
   clear BK400
   clear HB
   have HO407 := n0_
   have HO412 := n1_
   have BK399 := n2_
   have BK400 := n3_
   have HB := n4_
   clear n0_ n1_ n2_ n3_ n4_
   refine start_ (n := 13) (S := fun w' => w'.cell? ⟨gb399, 0, none⟩ = some (.slice A0_0 l0_0.length c0_0) ∧ w'.cell? ⟨gb399, 1, none⟩ = some (.slice A0_1 l0_1.length c0_1) ∧ w'.cell? ⟨gb399, 2, none⟩ = some (.int .i64 a0_2) ∧ w'.cell? ⟨gb399, 3, none⟩ = some (.slice A0_3 l0_3.length c0_3) ∧ w'.cell? ⟨gb400, 0, none⟩ = some (.int .i64 a1_0) ∧ w'.cell? ⟨gb400, 1, none⟩ = some (.string a1_1) ∧ w'.cell? ⟨gb400, 2, none⟩ = some (.slice A1_2 l1_2.length c1_2) ∧ w'.cell? ⟨gb400, 3, none⟩ = some (.int .i64 a1_3) ∧ w'.cell? ⟨gb400, 4, none⟩ = some (.int .i64 a1_4) ∧ w'.cell? ⟨gb400, 5, none⟩ = some (.slice A1_5 l1_5.length c1_5)) (ds := []) #[false, false, false, false, false, false, false, false, false, false, false, false, false] (by kernel_rfl) rfl rfl ⟨(blk_cell BK399.out 0).trans rfl, (blk_cell BK399.out 1).trans rfl, (blk_cell BK399.out 2).trans rfl, (blk_cell BK399.out 3).trans rfl, (blk_cell BK400.out 0).trans rfl, (blk_cell BK400.out 1).trans rfl, (blk_cell BK400.out 2).trans rfl, (blk_cell BK400.out 3).trans rfl, (blk_cell BK400.out 4).trans rfl, (blk_cell BK400.out 5).trans rfl⟩ (fun hHeld => ?_); refine with_tabW pentaglotlaw26_EvaluateDuals.tab6 pentaglotlaw26_EvaluateDuals.bits6 (fun HT_ HW_ => ?_)
   generalize w27.drew = w28 at HO407 HO412 BK399 BK400 HB hHeld ⊢
   refine pu_ 5 (some 35) ?_
   refine pu_ 6 (some 36) ?_
   refine tk_ 0 (some 30) hHeld ?_
   refine tk_ 1 (some 31) hHeld ?_
   refine on_ 2 (some 32) (fun K hK => ?_)
   refine goes_ Tryd.func26 (by kernel_rfl) rfl #[.int .i64 4, .agg #[.int .i64 a1_0, .string a1_1, .slice A1_2 l1_2.length c1_2, .int .i64 a1_3, .int .i64 a1_4, .slice A1_5 l1_5.length c1_5]] (by rfl) rfl rfl (by (try simp only [List.map_toArray, List.map_cons, List.map_nil]); first | done | rfl | (simp only [List.length_drop, List.length_take]; rfl)) ?_
   with_reducible refine (pentaglotlaw26_kid.calls 4 a1_0 a1_1 (fun k_ => k_ < w.heap.size) _ _ l1_2 a1_3 a1_4 (fun k_ => k_ < w.heap.size) _ _ l1_5 t415 t416 t417 t420 t421 t422 _ ?side1 ?side2 A11.out).mono ?_
   (case side1 => exact Kd.V_mk HC1_2.out (Kd.F_below (Kd.C_F k92_heap HR1_2.out) (be2_ HB GE399 GE400)))
   (case side2 => exact Kd.V_mk HC1_5.out (Kd.F_below (Kd.C_F k32_heap HR1_5.out) (be2_ HB GE399 GE400)))
   rintro e w29 ⟨v418, v423, rfl, ho0, ho1, hb⟩
   refine ⟨_, rfl, ?_⟩
   have n0_ := mk_ (Kd.R_elder' (rq_ HO407) (Kd.R_base ho0) hb)
   have n1_ := mk_ (Kd.N_mono (Kd.N_told (Kd.N_told (Kd.N_old (nq_ HO412) hb) (Kd.R_base ho0)) (Kd.N_base ho1)) (fun _ h_ => h_.1))
   have n2_ := mk_ (Kd.R_lower (Kd.R_new' (Kd.R_mono (ok' := fun k_ => True) ho0 (fun _ hk_ => trivial)) (Kd.R_lt (rq_ HO407))) (below_size (be2_ HB GE399 GE400)))
   have n3_ := mk_ (Kd.N_lower (Kd.N_mono (ok' := fun k_ => some k_ ≠ (v418 : Value).ownBlock ∧ some k_ ≠ (.slice Ao25 t405.length co25 : Value).ownBlock ∧ some k_ ≠ (.slice Ao26 t410.length co26 : Value).ownBlock ∧ k_ ≠ gb399 ∧ k_ ≠ gb400) ho1 (fun k_ hk_ => ⟨hk_.2, Or.elim hk_.1 (fun hs_ => Or.elim hs_ (fun hs_ => fun e_ => Nat.not_le.2 hs_ (Kd.R_base HO407.out k_ e_.symm)) (fun hs_ => fun e_ => Nat.not_le.2 hs_ (Kd.R_base HO407.out k_ e_.symm))) (fun hn_ => (Kd.fresh' (Kd.R_lt (rq_ HO407)) k_ hn_)), Or.elim hk_.1 (fun hs_ => Or.elim hs_ (fun hs_ => fun e_ => Nat.not_le.2 hs_ (Kd.N_base HO412.out k_ e_.symm)) (fun hs_ => fun e_ => Nat.not_le.2 hs_ (Kd.N_base HO412.out k_ e_.symm))) (fun hn_ => (Kd.fresh' (Kd.N_lt (nq_ HO412)) k_ hn_)), Or.elim hk_.1 (fun hs_ => Or.elim hs_ (fun hs_ => fun e_ => Nat.not_le.2 hs_ (by rw [e_]; exact GW399.out)) (fun hs_ => fun e_ => Nat.not_le.2 hs_ (by rw [e_]; exact GW399.out))) (fun hn_ => (Kd.freshB (g := gb399) (o := .cells #[.slice A0_0 l0_0.length c0_0, .slice A0_1 l0_1.length c0_1, .int .i64 a0_2, .slice A0_3 l0_3.length c0_3] 28 (0, 0)) (bq_ BK399) k_ hn_)), Or.elim hk_.1 (fun hs_ => Or.elim hs_ (fun hs_ => fun e_ => Nat.not_le.2 hs_ (by rw [e_]; exact GW400.out)) (fun hs_ => fun e_ => Nat.not_le.2 hs_ (by rw [e_]; exact GW400.out))) (fun hn_ => (Kd.freshB (g := gb400) (o := .cells #[.int .i64 a1_0, .string a1_1, .slice A1_2 l1_2.length c1_2, .int .i64 a1_3, .int .i64 a1_4, .slice A1_5 l1_5.length c1_5] 32 (0, 0)) (bq_ BK400) k_ hn_))⟩)) (below_size (be2_ HB GE399 GE400)))
   have n4_ := mk_ (blk_below (g := gb399) (o := .cells #[.slice A0_0 l0_0.length c0_0, .slice A0_1 l0_1.length c0_1, .int .i64 a0_2, .slice A0_3 l0_3.length c0_3] 28 (0, 0)) (bq_ BK399) hb)
   have n5_ := mk_ (bb_ BK400 hb)
   have n6_ := mk_ (below_step (be2_ HB GE399 GE400) hb)
   clear HO407
   clear HO412
   clear BK399
   clear BK400
   clear HB
   have HO407 := n0_
   have HO412 := n1_
   have HO419 := n2_
   have HO424 := n3_
   have BK399 := n4_
   have BK400 := n5_
   have HB := n6_
   clear n0_ n1_ n2_ n3_ n4_ n5_ n6_
   (try clear hb)
   (try clear hb2)
   (try clear hk)
   (try clear hi)
   (try clear ho0)
   (try clear ho1)
   obtain ⟨Ao30, co30, eo30⟩ := Kd.R_slice HO419.out
   (first | subst eo30 | (injection eo30 with f1_ f2_ f3_; have f4_ := f1_.symm; have f5_ := f3_.symm; clear f1_ f2_ f3_; subst f4_; subst f5_))
   obtain ⟨Ao31, co31, eo31⟩ := Kd.N_slice HO424.out
   (first | subst eo31 | (injection eo31 with f1_ f2_ f3_; have f4_ := f1_.symm; have f5_ := f3_.symm; clear f1_ f2_ f3_; subst f4_; subst f5_))
   refine hK.out _ _ ⟨(blk_cell BK399.out 0).trans rfl, (blk_cell BK399.out 1).trans rfl, (blk_cell BK399.out 2).trans rfl, (blk_cell BK399.out 3).trans rfl, (blk_cell BK400.out 0).trans rfl, (blk_cell BK400.out 1).trans rfl, (blk_cell BK400.out 2).trans rfl, (blk_cell BK400.out 3).trans rfl, (blk_cell BK400.out 4).trans rfl, (blk_cell BK400.out 5).trans rfl⟩ (fun hHeld => ?_)
   clear hK K
   refine no_ (N := some 32) ?_
   refine on_ 3 (some 33) (fun K hK => ?_)
   refine goes_ Tryd.func26 (by kernel_rfl) rfl #[.int .i64 12, .agg #[.int .i64 t415, .string t416, .slice Ao30 t417.length co30, .int .i64 t420, .int .i64 t421, .slice Ao31 t422.length co31]] (by rfl) rfl rfl (by (try simp only [List.map_toArray, List.map_cons, List.map_nil]); first | done | rfl | (simp only [List.length_drop, List.length_take]; rfl)) ?_
   with_reducible refine (pentaglotlaw26_kid.calls 12 t415 t416 (fun k_ => some k_ = (.slice Ao30 t417.length co30 : Value).ownBlock) _ _ t417 t420 t421 (fun k_ => (some k_ ≠ (.slice Ao30 t417.length co30 : Value).ownBlock ∧ (some k_ ≠ (.slice Ao25 t405.length co25 : Value).ownBlock ∧ (some k_ ≠ (.slice Ao26 t410.length co26 : Value).ownBlock ∧ (k_ ≠ gb399 ∧ k_ ≠ gb400))))) _ _ t422 t425 t426 t427 t430 t431 t432 _ ?side1 ?side2 A12.out).mono ?_
   (case side1 => exact Kd.R_V (Kd.R_tight rfl (Kd.R_types (Kd.R_types (Kd.R_apart' (Kd.R_apart' (HO419.out) (Kd.N_typed HO412.out) (by decide)) (Kd.N_typed HO424.out) (by decide)) BK399.out (by decide)) BK400.out (by decide))))
   (case side2 => exact Kd.N_V (HO424.out))
   rintro e w32 ⟨v428, v433, rfl, ho0, ho1, hb⟩
   refine ⟨_, rfl, ?_⟩
   have n0_ := mk_ (Kd.R_elder' (rq_ HO407) (Kd.R_base ho0) hb)
   have n1_ := mk_ (Kd.N_mono (Kd.N_told (Kd.N_told (Kd.N_old (nq_ HO412) hb) (Kd.R_base ho0)) (Kd.N_base ho1)) (fun _ h_ => h_.1))
   have n2_ := mk_ (Kd.R_elder' (rq_ HO419) (Kd.R_base ho0) hb)
   have n3_ := mk_ (Kd.N_mono (Kd.N_told (Kd.N_told (Kd.N_old (nq_ HO424) hb) (Kd.R_base ho0)) (Kd.N_base ho1)) (fun _ h_ => h_.1))
   have n4_ := mk_ (Kd.R_lower (Kd.R_new' (Kd.R_new' (Kd.R_mono (ok' := fun k_ => True) ho0 (fun _ hk_ => trivial)) (Kd.R_lt (rq_ HO407))) (Kd.R_lt (rq_ HO419))) (below_size (be2_ HB GE399 GE400)))
   have n5_ := mk_ (Kd.N_lower (Kd.N_mono (ok' := fun k_ => some k_ ≠ (v428 : Value).ownBlock ∧ some k_ ≠ (.slice Ao25 t405.length co25 : Value).ownBlock ∧ some k_ ≠ (.slice Ao26 t410.length co26 : Value).ownBlock ∧ k_ ≠ gb399 ∧ k_ ≠ gb400) ho1 (fun k_ hk_ => ⟨hk_.2, Or.elim hk_.1 (fun hs_ => Or.elim hs_ (fun hs_ => ((Kd.R_types (Kd.R_types (Kd.R_apart' (Kd.R_apart' (HO419.out) (Kd.N_typed HO412.out) (by decide)) (Kd.N_typed HO424.out) (by decide)) BK399.out (by decide)) BK400.out (by decide)).1 k_ hs_.symm).1.1.1.1.2) (fun hs_ => hs_.2.1)) (fun hn_ => (Kd.fresh' (Kd.R_lt (rq_ HO407)) k_ hn_)), Or.elim hk_.1 (fun hs_ => Or.elim hs_ (fun hs_ => ((Kd.R_types (Kd.R_types (Kd.R_apart' (Kd.R_apart' (HO419.out) (Kd.N_typed HO412.out) (by decide)) (Kd.N_typed HO424.out) (by decide)) BK399.out (by decide)) BK400.out (by decide)).1 k_ hs_.symm).1.1.1.2) (fun hs_ => hs_.2.2.1)) (fun hn_ => (Kd.fresh' (Kd.N_lt (nq_ HO412)) k_ hn_)), Or.elim hk_.1 (fun hs_ => Or.elim hs_ (fun hs_ => ((Kd.R_types (Kd.R_types (Kd.R_apart' (Kd.R_apart' (HO419.out) (Kd.N_typed HO412.out) (by decide)) (Kd.N_typed HO424.out) (by decide)) BK399.out (by decide)) BK400.out (by decide)).1 k_ hs_.symm).1.2) (fun hs_ => hs_.2.2.2.1)) (fun hn_ => (Kd.freshB (g := gb399) (o := .cells #[.slice A0_0 l0_0.length c0_0, .slice A0_1 l0_1.length c0_1, .int .i64 a0_2, .slice A0_3 l0_3.length c0_3] 28 (0, 0)) (bq_ BK399) k_ hn_)), Or.elim hk_.1 (fun hs_ => Or.elim hs_ (fun hs_ => ((Kd.R_types (Kd.R_types (Kd.R_apart' (Kd.R_apart' (HO419.out) (Kd.N_typed HO412.out) (by decide)) (Kd.N_typed HO424.out) (by decide)) BK399.out (by decide)) BK400.out (by decide)).1 k_ hs_.symm).2) (fun hs_ => hs_.2.2.2.2)) (fun hn_ => (Kd.freshB (g := gb400) (o := .cells #[.int .i64 a1_0, .string a1_1, .slice A1_2 l1_2.length c1_2, .int .i64 a1_3, .int .i64 a1_4, .slice A1_5 l1_5.length c1_5] 32 (0, 0)) (bq_ BK400) k_ hn_))⟩)) (below_size (be2_ HB GE399 GE400)))
   have n6_ := mk_ (blk_below (g := gb399) (o := .cells #[.slice A0_0 l0_0.length c0_0, .slice A0_1 l0_1.length c0_1, .int .i64 a0_2, .slice A0_3 l0_3.length c0_3] 28 (0, 0)) (bq_ BK399) hb)
   have n7_ := mk_ (bb_ BK400 hb)
   have n8_ := mk_ (below_step (be2_ HB GE399 GE400) hb)
   clear HO407
   clear HO412
   clear HO419
   clear HO424
   clear BK399
   clear BK400
   clear HB
   have HO407 := n0_
   have HO412 := n1_
   have HO419 := n2_
   have HO424 := n3_
   have HO429 := n4_
   have HO434 := n5_
   have BK399 := n6_
   have BK400 := n7_
   have HB := n8_
   clear n0_ n1_ n2_ n3_ n4_ n5_ n6_ n7_ n8_
   (try clear hb)
   (try clear hb2)
   (try clear hk)
   (try clear hi)
   (try clear ho0)
   (try clear ho1)
   obtain ⟨Ao33, co33, eo33⟩ := Kd.R_slice HO429.out
   (first | subst eo33 | (injection eo33 with f1_ f2_ f3_; have f4_ := f1_.symm; have f5_ := f3_.symm; clear f1_ f2_ f3_; subst f4_; subst f5_))
   obtain ⟨Ao34, co34, eo34⟩ := Kd.N_slice HO434.out
   (first | subst eo34 | (injection eo34 with f1_ f2_ f3_; have f4_ := f1_.symm; have f5_ := f3_.symm; clear f1_ f2_ f3_; subst f4_; subst f5_))
   refine hK.out _ _ ⟨(blk_cell BK399.out 0).trans rfl, (blk_cell BK399.out 1).trans rfl, (blk_cell BK399.out 2).trans rfl, (blk_cell BK399.out 3).trans rfl, (blk_cell BK400.out 0).trans rfl, (blk_cell BK400.out 1).trans rfl, (blk_cell BK400.out 2).trans rfl, (blk_cell BK400.out 3).trans rfl, (blk_cell BK400.out 4).trans rfl, (blk_cell BK400.out 5).trans rfl⟩ (fun hHeld => ?_)
   clear hK K
   refine no_ (N := some 33) ?_
   refine on_ 4 (some 34) (fun K hK => ?_)
   refine goes_ Tryd.func26 (by kernel_rfl) rfl #[.int .i64 4, .agg #[.int .i64 t425, .string t426, .slice Ao33 t427.length co33, .int .i64 t430, .int .i64 t431, .slice Ao34 t432.length co34]] (by rfl) rfl rfl (by (try simp only [List.map_toArray, List.map_cons, List.map_nil]); first | done | rfl | (simp only [List.length_drop, List.length_take]; rfl)) ?_
   with_reducible refine (pentaglotlaw26_kid.calls 4 t425 t426 (fun k_ => some k_ = (.slice Ao33 t427.length co33 : Value).ownBlock) _ _ t427 t430 t431 (fun k_ => (some k_ ≠ (.slice Ao33 t427.length co33 : Value).ownBlock ∧ (some k_ ≠ (.slice Ao25 t405.length co25 : Value).ownBlock ∧ (some k_ ≠ (.slice Ao26 t410.length co26 : Value).ownBlock ∧ (k_ ≠ gb399 ∧ k_ ≠ gb400))))) _ _ t432 t435 t436 t437 t440 t441 t442 _ ?side1 ?side2 A13.out).mono ?_
   (case side1 => exact Kd.R_V (Kd.R_tight rfl (Kd.R_types (Kd.R_types (Kd.R_apart' (Kd.R_apart' (Kd.R_apart' (HO429.out) (Kd.N_typed HO412.out) (by decide)) (Kd.N_typed HO424.out) (by decide)) (Kd.N_typed HO434.out) (by decide)) BK399.out (by decide)) BK400.out (by decide))))
   (case side2 => exact Kd.N_V (HO434.out))
   rintro e w35 ⟨v438, v443, rfl, ho0, ho1, hb⟩
   refine ⟨_, rfl, ?_⟩
   have n0_ := mk_ (Kd.R_elder' (rq_ HO407) (Kd.R_base ho0) hb)
   have n1_ := mk_ (Kd.N_mono (Kd.N_told (Kd.N_told (Kd.N_old (nq_ HO412) hb) (Kd.R_base ho0)) (Kd.N_base ho1)) (fun _ h_ => h_.1))
   have n2_ := mk_ (Kd.R_elder' (rq_ HO419) (Kd.R_base ho0) hb)
   have n3_ := mk_ (Kd.N_mono (Kd.N_told (Kd.N_told (Kd.N_old (nq_ HO424) hb) (Kd.R_base ho0)) (Kd.N_base ho1)) (fun _ h_ => h_.1))
   have n4_ := mk_ (Kd.R_elder' (rq_ HO429) (Kd.R_base ho0) hb)
   have n5_ := mk_ (Kd.N_mono (Kd.N_told (Kd.N_told (Kd.N_old (nq_ HO434) hb) (Kd.R_base ho0)) (Kd.N_base ho1)) (fun _ h_ => h_.1))
   have n6_ := mk_ (Kd.R_lower (Kd.R_new' (Kd.R_new' (Kd.R_new' (Kd.R_mono (ok' := fun k_ => True) ho0 (fun _ hk_ => trivial)) (Kd.R_lt (rq_ HO407))) (Kd.R_lt (rq_ HO419))) (Kd.R_lt (rq_ HO429))) (below_size (be2_ HB GE399 GE400)))
   have n7_ := mk_ (Kd.N_lower (Kd.N_mono (ok' := fun k_ => some k_ ≠ (v438 : Value).ownBlock ∧ some k_ ≠ (.slice Ao25 t405.length co25 : Value).ownBlock ∧ some k_ ≠ (.slice Ao26 t410.length co26 : Value).ownBlock ∧ k_ ≠ gb399 ∧ k_ ≠ gb400) ho1 (fun k_ hk_ => ⟨hk_.2, Or.elim hk_.1 (fun hs_ => Or.elim hs_ (fun hs_ => ((Kd.R_types (Kd.R_types (Kd.R_apart' (Kd.R_apart' (Kd.R_apart' (HO429.out) (Kd.N_typed HO412.out) (by decide)) (Kd.N_typed HO424.out) (by decide)) (Kd.N_typed HO434.out) (by decide)) BK399.out (by decide)) BK400.out (by decide)).1 k_ hs_.symm).1.1.1.1.1.1.2) (fun hs_ => hs_.2.1)) (fun hn_ => (Kd.fresh' (Kd.R_lt (rq_ HO407)) k_ hn_)), Or.elim hk_.1 (fun hs_ => Or.elim hs_ (fun hs_ => ((Kd.R_types (Kd.R_types (Kd.R_apart' (Kd.R_apart' (Kd.R_apart' (HO429.out) (Kd.N_typed HO412.out) (by decide)) (Kd.N_typed HO424.out) (by decide)) (Kd.N_typed HO434.out) (by decide)) BK399.out (by decide)) BK400.out (by decide)).1 k_ hs_.symm).1.1.1.1.2) (fun hs_ => hs_.2.2.1)) (fun hn_ => (Kd.fresh' (Kd.N_lt (nq_ HO412)) k_ hn_)), Or.elim hk_.1 (fun hs_ => Or.elim hs_ (fun hs_ => ((Kd.R_types (Kd.R_types (Kd.R_apart' (Kd.R_apart' (Kd.R_apart' (HO429.out) (Kd.N_typed HO412.out) (by decide)) (Kd.N_typed HO424.out) (by decide)) (Kd.N_typed HO434.out) (by decide)) BK399.out (by decide)) BK400.out (by decide)).1 k_ hs_.symm).1.2) (fun hs_ => hs_.2.2.2.1)) (fun hn_ => (Kd.freshB (g := gb399) (o := .cells #[.slice A0_0 l0_0.length c0_0, .slice A0_1 l0_1.length c0_1, .int .i64 a0_2, .slice A0_3 l0_3.length c0_3] 28 (0, 0)) (bq_ BK399) k_ hn_)), Or.elim hk_.1 (fun hs_ => Or.elim hs_ (fun hs_ => ((Kd.R_types (Kd.R_types (Kd.R_apart' (Kd.R_apart' (Kd.R_apart' (HO429.out) (Kd.N_typed HO412.out) (by decide)) (Kd.N_typed HO424.out) (by decide)) (Kd.N_typed HO434.out) (by decide)) BK399.out (by decide)) BK400.out (by decide)).1 k_ hs_.symm).2) (fun hs_ => hs_.2.2.2.2)) (fun hn_ => (Kd.freshB (g := gb400) (o := .cells #[.int .i64 a1_0, .string a1_1, .slice A1_2 l1_2.length c1_2, .int .i64 a1_3, .int .i64 a1_4, .slice A1_5 l1_5.length c1_5] 32 (0, 0)) (bq_ BK400) k_ hn_))⟩)) (below_size (be2_ HB GE399 GE400)))
   have n8_ := mk_ (blk_below (g := gb399) (o := .cells #[.slice A0_0 l0_0.length c0_0, .slice A0_1 l0_1.length c0_1, .int .i64 a0_2, .slice A0_3 l0_3.length c0_3] 28 (0, 0)) (bq_ BK399) hb)
   have n9_ := mk_ (bb_ BK400 hb)
   have n10_ := mk_ (below_step (be2_ HB GE399 GE400) hb)
   clear HO407
   clear HO412
   clear HO419
   clear HO424
   clear HO429
   clear HO434
   clear BK399
   clear BK400
   clear HB
   have HO407 := n0_
   have HO412 := n1_
   have HO419 := n2_
   have HO424 := n3_
   have HO429 := n4_
   have HO434 := n5_
   have HO439 := n6_
   have HO444 := n7_
   have BK399 := n8_
   have BK400 := n9_
   have HB := n10_
   clear n0_ n1_ n2_ n3_ n4_ n5_ n6_ n7_ n8_ n9_ n10_
   (try clear hb)
   (try clear hb2)
   (try clear hk)
   (try clear hi)
   (try clear ho0)
   (try clear ho1)
   obtain ⟨Ao36, co36, eo36⟩ := Kd.R_slice HO439.out
   (first | subst eo36 | (injection eo36 with f1_ f2_ f3_; have f4_ := f1_.symm; have f5_ := f3_.symm; clear f1_ f2_ f3_; subst f4_; subst f5_))
   obtain ⟨Ao37, co37, eo37⟩ := Kd.N_slice HO444.out
   (first | subst eo37 | (injection eo37 with f1_ f2_ f3_; have f4_ := f1_.symm; have f5_ := f3_.symm; clear f1_ f2_ f3_; subst f4_; subst f5_))
   refine hK.out _ _ ⟨(blk_cell BK399.out 0).trans rfl, (blk_cell BK399.out 1).trans rfl, (blk_cell BK399.out 2).trans rfl, (blk_cell BK399.out 3).trans rfl, (blk_cell BK400.out 0).trans rfl, (blk_cell BK400.out 1).trans rfl, (blk_cell BK400.out 2).trans rfl, (blk_cell BK400.out 3).trans rfl, (blk_cell BK400.out 4).trans rfl, (blk_cell BK400.out 5).trans rfl⟩ (fun hHeld => ?_)
   clear hK K
   refine no_ (N := some 34) ?_
   refine on_ 7 (some 37) (fun K hK => ?_)
   refine goes_ Tryd.func20 (by kernel_rfl) rfl #[.agg #[.slice A0_0 l0_0.length c0_0, .slice A0_1 l0_1.length c0_1, .int .i64 a0_2, .slice A0_3 l0_3.length c0_3], .agg #[.int .i64 t435, .string t436, .slice Ao36 t437.length co36, .int .i64 t440, .int .i64 t441, .slice Ao37 t442.length co37], .int .i64 a2, .int .i64 a3] (by rfl) rfl rfl (by (try simp only [List.map_toArray, List.map_cons, List.map_nil]); first | done | rfl | (simp only [List.length_drop, List.length_take]; rfl)) ?_
   with_reducible refine (pentaglotlaw26_at.calls k _ _ l0_0 _ _ l0_1 a0_2 _ _ l0_3 t435 t436 _ _ t437 t440 t441 _ _ t442 a2 a3 t445 t446 _ ?side1 ?side2 ?side3 ?side4 ?side5 ?side6 ?side7 ?side8 ?side9 ?side10 A14.out (tb_on HTB.out (be2_ HB GE399 GE400))).mono ?_
   (case side1 => exact cs_ (Kd.C_below HR0_0.out HB.out))
   (case side2 => exact HC0_0.out)
   (case side3 => exact cs_ (Kd.C_below HR0_1.out HB.out))
   (case side4 => exact HC0_1.out)
   (case side5 => exact cs_ (Kd.C_below HR0_3.out HB.out))
   (case side6 => exact HC0_3.out)
   (case side7 => repeat (first | exact (Kd.R_reads' HO439.out).2.2 | (with_reducible refine Kd.C_alloc ?_ _) | (with_reducible refine Kd.C_drewN ?_ _) | (with_reducible refine Kd.C_drew ?_)))
   (case side8 => exact (Kd.R_reads' HO439.out).2.1)
   (case side9 => repeat (first | exact (Kd.N_reads' HO444.out).2.2 | (with_reducible refine Kd.C_alloc ?_ _) | (with_reducible refine Kd.C_drewN ?_ _) | (with_reducible refine Kd.C_drew ?_)))
   (case side10 => exact (Kd.N_reads' HO444.out).2.1)
   rintro e w38 ⟨rfl, hb⟩
   refine ⟨_, rfl, ?_⟩
   have n0_ := mk_ (Kd.R_below (rq_ HO407) hb)
   have n1_ := mk_ (Kd.N_below (nq_ HO412) hb)
   have n2_ := mk_ (Kd.R_below (rq_ HO419) hb)
   have n3_ := mk_ (Kd.N_below (nq_ HO424) hb)
   have n4_ := mk_ (Kd.R_below (rq_ HO429) hb)
   have n5_ := mk_ (Kd.N_below (nq_ HO434) hb)
   have n6_ := mk_ (Kd.R_below (rq_ HO439) hb)
   have n7_ := mk_ (Kd.N_below (nq_ HO444) hb)
   have n8_ := mk_ (blk_below (g := gb399) (o := .cells #[.slice A0_0 l0_0.length c0_0, .slice A0_1 l0_1.length c0_1, .int .i64 a0_2, .slice A0_3 l0_3.length c0_3] 28 (0, 0)) (bq_ BK399) hb)
   have n9_ := mk_ (bb_ BK400 hb)
   have n10_ := mk_ (below_step (be2_ HB GE399 GE400) hb)
   clear HO407
   clear HO412
   clear HO419
   clear HO424
   clear HO429
   clear HO434
   clear HO439
   clear HO444
   clear BK399
   clear BK400
   clear HB
   have HO407 := n0_
   have HO412 := n1_
   have HO419 := n2_
   have HO424 := n3_
   have HO429 := n4_
   have HO434 := n5_
   have HO439 := n6_
   have HO444 := n7_
   have BK399 := n8_
   have BK400 := n9_
   have HB := n10_
   clear n0_ n1_ n2_ n3_ n4_ n5_ n6_ n7_ n8_ n9_ n10_
   (try clear hb)
   (try clear hb2)
   (try clear hk)
   (try clear hi)
   refine hK.out _ _ ⟨(blk_cell BK399.out 0).trans rfl, (blk_cell BK399.out 1).trans rfl, (blk_cell BK399.out 2).trans rfl, (blk_cell BK399.out 3).trans rfl, (blk_cell BK400.out 0).trans rfl, (blk_cell BK400.out 1).trans rfl, (blk_cell BK400.out 2).trans rfl, (blk_cell BK400.out 3).trans rfl, (blk_cell BK400.out 4).trans rfl, (blk_cell BK400.out 5).trans rfl⟩ (fun hHeld => ?_)
   clear hK K
   refine no_ (N := some 37) ?_
   refine pu_ 8 (some 29) ?_
   refine pu_ 9 (some 38) ?_
   refine pu_ 10 (some 39) ?_
   refine pu_ 11 (some 11) ?_
   refine pu_ 12 (some 12) ?_
   refine done_ (done_of HT_.out (by kernel_rfl)) ?_
   go_upto_region 7 with (fail)
   go_cut [48] (fun v48 wc => ∃ (kq : Nat) (x48_14 : Bool), v48 = .bool x48_14 ∧ Aside0 (pentaglotlaw26_EvaluateDuals.j0 kq a2 a3 x48_14 l0_0 l0_1 a0_2 l0_3 a1_0 a1_1 l1_2 a1_3 a1_4 l1_5 = some r) ∧ Aside0 (kq ≤ k) ∧ Aside0 (wc.heap[gb399]? = some (.cells #[(.slice A0_0 l0_0.length c0_0), (.slice A0_1 l0_1.length c0_1), .int .i64 a0_2, (.slice A0_3 l0_3.length c0_3)] 28 (0, 0))) ∧ Aside0 (wc.heap[gb400]? = some (.cells #[.int .i64 a1_0, .string a1_1, (.slice A1_2 l1_2.length c1_2), .int .i64 a1_3, .int .i64 a1_4, (.slice A1_5 l1_5.length c1_5)] 32 (0, 0))) ∧ Aside0 (Below w.heap.size w wc))
   case first =>
    have H := HC15.out
    clear HC15
    by_cases c39 : t414 = true
    ·subst c39
     rw [if_pos rfl] at H
     by_cases c40 : t446 = true
     ·subst c40
      rw [if_pos rfl] at H
      have H' := mk_ H
      clear H
      go_wp2
      go_meet
      case rel => exact ⟨_, ((t413 != t445)), fi_, H', ⟨by first | omega | exact Nat.le_refl _⟩, ⟨bq_ BK399⟩, ⟨bq_ BK400⟩, ⟨be2_ HB GE399 GE400⟩⟩
     ·replace c40 := Bool.eq_false_iff.mpr c40
      subst c40
      rw [if_neg nf_] at H
      have H' := mk_ H
      clear H
      go_wp2
      go_meet
      case rel => exact ⟨_, (false), fi_, H', ⟨by first | omega | exact Nat.le_refl _⟩, ⟨bq_ BK399⟩, ⟨bq_ BK400⟩, ⟨be2_ HB GE399 GE400⟩⟩
    ·replace c39 := Bool.eq_false_iff.mpr c39
     subst c39
     rw [if_neg nf_] at H
     have H' := mk_ H
     clear H
     go_wp2
     go_meet
     case rel => exact ⟨_, (false), fi_, H', ⟨by first | omega | exact Nat.le_refl _⟩, ⟨bq_ BK399⟩, ⟨bq_ BK400⟩, ⟨be2_ HB GE399 GE400⟩⟩
   case rest =>
    clear HC15
    obtain ⟨kq, x48_14, rfl, HA, HJ14, BK399, BK400, HB⟩ := hcut
    cases kq with
    | zero => exact absurd HA.out (by simp [pentaglotlaw26_EvaluateDuals.j0])
    | succ kj14 =>
     have H := HA.out
     clear HA
     simp only [pentaglotlaw26_EvaluateDuals.j0] at H
     by_cases c41 : x48_14 = true
     ·subst c41
      rw [if_pos rfl] at H
      obtain rfl := Option.some.inj H
      go_wp2
      go_ret
      exact ⟨er_, be2_ HB GE399 GE400⟩
     ·replace c41 := Bool.eq_false_iff.mpr c41
      subst c41
      rw [if_neg nf_] at H
      have HC42 := mk_ H
      clear H
      go_upto_region 9 with (fail)
      go_cut [57] (fun v57 wc => ∃ (kq : Nat) (x57_41 : Bool), v57 = .bool x57_41 ∧ Aside0 (pentaglotlaw26_EvaluateDuals.j1 kq a2 a3 x57_41 l0_0 l0_1 a0_2 l0_3 a1_0 a1_1 l1_2 a1_3 a1_4 l1_5 = some r) ∧ Aside0 (kq ≤ kj14) ∧ Aside0 (wc.heap[gb399]? = some (.cells #[(.slice A0_0 l0_0.length c0_0), (.slice A0_1 l0_1.length c0_1), .int .i64 a0_2, (.slice A0_3 l0_3.length c0_3)] 28 (0, 0))) ∧ Aside0 (wc.heap[gb400]? = some (.cells #[.int .i64 a1_0, .string a1_1, (.slice A1_2 l1_2.length c1_2), .int .i64 a1_3, .int .i64 a1_4, (.slice A1_5 l1_5.length c1_5)] 32 (0, 0))) ∧ Aside0 (Below w.heap.size w wc))
      case first =>
       have H := HC42.out
       clear HC42
       by_cases c43 : a1_0 = 8
       ·rw [if_pos c43] at H
        obtain ⟨c43b0, c43b1⟩ := eb_ c43
        clear c43
        (first | rw [c43b0] | (simp only [i64_w, i32_w]; rw [c43b0]) | skip)
        have H' := mk_ H
        clear H
        have hnb44 := NB400_399.out
        have hnc44 := NB399_400.out
        obtain ⟨_, _, _, _, _, _, _, _, _, _, _, _⟩ := hb6_ BK400
        go_wp2
        go_meet
        case rel => exact ⟨_, (((l1_5.length : Int) != 1)), fi_, H', ⟨by have := HJ14.out; first | omega | exact Nat.le_refl _⟩, ⟨bq_ BK399⟩, ⟨bq_ BK400⟩, ⟨be2_ HB GE399 GE400⟩⟩
       ·rw [if_neg c43] at H
        obtain ⟨c43b0, c43b1⟩ := en_ c43
        (first | rw [c43b0] | (simp only [i64_w, i32_w]; rw [c43b0]) | skip)
        have H' := mk_ H
        clear H
        have hnb46 := NB400_399.out
        have hnc46 := NB399_400.out
        obtain ⟨_, _, _, _, _, _, _, _, _, _, _, _⟩ := hb6_ BK400
        go_wp2
        go_meet
        case rel => exact ⟨_, (true), fi_, H', ⟨by have := HJ14.out; first | omega | exact Nat.le_refl _⟩, ⟨bq_ BK399⟩, ⟨bq_ BK400⟩, ⟨be2_ HB GE399 GE400⟩⟩
      case rest =>
       clear HC42
       obtain ⟨kq, x57_41, rfl, HA, HJ41, BK399, BK400, HB⟩ := hcut
       cases kq with
       | zero => exact absurd HA.out (by simp [pentaglotlaw26_EvaluateDuals.j1])
       | succ kj41 =>
        have H := HA.out
        clear HA
        simp only [pentaglotlaw26_EvaluateDuals.j1] at H
        by_cases c48 : x57_41 = true
        ·subst c48
         rw [if_pos rfl] at H
         obtain rfl := Option.some.inj H
         go_wp2
         go_ret
         exact ⟨er_, be2_ HB GE399 GE400⟩
        ·replace c48 := Bool.eq_false_iff.mpr c48
         subst c48
         rw [if_neg nf_] at H
         by_cases c49 : 0 < (l1_5.length : Int)
         ·rw [if_pos c49] at H
          have c49b0 : decide (0 < (l1_5.length : Int)) = true := decide_eq_true c49
          have c49b1 : decide (0 < l1_5.length) = true := decide_eq_true (by omega)
          clear c49
          replace H := Option.bind_eq_some_iff.mp H
          obtain ⟨⟨t448, t449, t450, t453, t454, t455⟩, A500, H⟩ := H
          replace H : ((pentaglotlaw26_kid.f 9 t448 t449 t450 t453 t454 t455).bind fun bt458 => ((pentaglotlaw26_at.f kj41 l0_0 l0_1 a0_2 l0_3 a1_0 a1_1 l1_2 a1_3 a1_4 l1_5 a2 a3).bind fun bt469 => ((pentaglotlaw26_kid.f 4 bt458.1 a1_1 bt458.2.2.1 bt458.2.2.2.1 bt458.2.2.2.2.1 bt458.2.2.2.2.2).bind fun bt471 => ((pentaglotlaw26_at.f kj41 l0_0 l0_1 a0_2 l0_3 bt471.1 bt471.2.1 bt471.2.2.1 bt471.2.2.2.1 bt471.2.2.2.2.1 bt471.2.2.2.2.2 a2 a3).bind fun bt481 => (if bt469.2 = true then (if bt481.2 = true then (some (bt469.1 == bt481.1)) else (some true)) else (some true)))))) = some r := H
          have A50 := mk_ A500
          clear A500
          replace H := Option.bind_eq_some_iff.mp H
          obtain ⟨⟨t458, t459, t460, t463, t464, t465⟩, A510, H⟩ := H
          replace H : ((pentaglotlaw26_at.f kj41 l0_0 l0_1 a0_2 l0_3 a1_0 a1_1 l1_2 a1_3 a1_4 l1_5 a2 a3).bind fun bt469 => ((pentaglotlaw26_kid.f 4 t458 a1_1 t460 t463 t464 t465).bind fun bt471 => ((pentaglotlaw26_at.f kj41 l0_0 l0_1 a0_2 l0_3 bt471.1 bt471.2.1 bt471.2.2.1 bt471.2.2.2.1 bt471.2.2.2.2.1 bt471.2.2.2.2.2 a2 a3).bind fun bt481 => (if bt469.2 = true then (if bt481.2 = true then (some (bt469.1 == bt481.1)) else (some true)) else (some true))))) = some r := H
          have A51 := mk_ A510
          clear A510
          replace H := Option.bind_eq_some_iff.mp H
          obtain ⟨⟨t469, t470⟩, A520, H⟩ := H
          replace H : ((pentaglotlaw26_kid.f 4 t458 a1_1 t460 t463 t464 t465).bind fun bt471 => ((pentaglotlaw26_at.f kj41 l0_0 l0_1 a0_2 l0_3 bt471.1 bt471.2.1 bt471.2.2.1 bt471.2.2.2.1 bt471.2.2.2.2.1 bt471.2.2.2.2.2 a2 a3).bind fun bt481 => (if t470 = true then (if bt481.2 = true then (some (t469 == bt481.1)) else (some true)) else (some true)))) = some r := H
          have A52 := mk_ A520
          clear A520
          replace H := Option.bind_eq_some_iff.mp H
          obtain ⟨⟨t471, t472, t473, t476, t477, t478⟩, A530, H⟩ := H
          replace H : ((pentaglotlaw26_at.f kj41 l0_0 l0_1 a0_2 l0_3 t471 t472 t473 t476 t477 t478 a2 a3).bind fun bt481 => (if t470 = true then (if bt481.2 = true then (some (t469 == bt481.1)) else (some true)) else (some true))) = some r := H
          have A53 := mk_ A530
          clear A530
          replace H := Option.bind_eq_some_iff.mp H
          obtain ⟨⟨t481, t482⟩, A540, H⟩ := H
          replace H : (if t470 = true then (if t482 = true then (some (t469 == t481)) else (some true)) else (some true)) = some r := H
          have A54 := mk_ A540
          clear A540
          by_cases c55 : t470 = true
          ·subst c55
           rw [if_pos rfl] at H
           by_cases c56 : t482 = true
           ·subst c56
            rw [if_pos rfl] at H
            obtain rfl := Option.some.inj H
            have hnb57 := NB400_399.out
            have hnc57 := NB399_400.out
            obtain ⟨_, _, _, _, _, _, _, _, _, _, _, _⟩ := hb6_ BK400
            have p447 : 0 ≤ (0 : Int) := (by omega)
            have q447 : 0 < (l1_5.length : Int) := of_decide_eq_true (by first | (with_reducible assumption) | assumption)
            obtain ⟨ad447, A447_2, c447_2, A447_5, c447_5, e447, hx447_0, hx447_1, hx447_2, hx447_3, hx447_4, hx447_5, hl447_2, hi447_2, hl447_5, hi447_5⟩ := at_T32 HR1_5.out 0 p447 q447
            cases e447
            have qi447 : (0 < l1_5.length) = True := eq_true (by omega)
            (try rw [show ((0 : Int)).toNat = 0 from rfl] at hx447_0)
            (try rw [show 0 * 6 = 0 from rfl] at hx447_0)
            (try rw [Addr.add_zero'] at hx447_0)
            (try rw [show ((0 : Int)).toNat = 0 from rfl] at hx447_1)
            (try rw [show 0 * 6 = 0 from rfl] at hx447_1)
            (try rw [Addr.add_zero'] at hx447_1)
            (try rw [show ((0 : Int)).toNat = 0 from rfl] at hx447_2)
            (try rw [show 0 * 6 = 0 from rfl] at hx447_2)
            (try rw [Addr.add_zero'] at hx447_2)
            (try rw [show ((0 : Int)).toNat = 0 from rfl] at hx447_3)
            (try rw [show 0 * 6 = 0 from rfl] at hx447_3)
            (try rw [Addr.add_zero'] at hx447_3)
            (try rw [show ((0 : Int)).toNat = 0 from rfl] at hx447_4)
            (try rw [show 0 * 6 = 0 from rfl] at hx447_4)
            (try rw [Addr.add_zero'] at hx447_4)
            (try rw [show ((0 : Int)).toNat = 0 from rfl] at hx447_5)
            (try rw [show 0 * 6 = 0 from rfl] at hx447_5)
            (try rw [Addr.add_zero'] at hx447_5)
            replace hx447_0 := cb_ HB hx447_0
            replace hx447_1 := cb_ HB hx447_1
            replace hx447_2 := cb_ HB hx447_2
            replace hx447_3 := cb_ HB hx447_3
            replace hx447_4 := cb_ HB hx447_4
            replace hx447_5 := cb_ HB hx447_5
            have HR447_2 := mk_ hi447_2
            have HC447_2 := mk_ hl447_2
            clear hi447_2 hl447_2
            have HR447_5 := mk_ hi447_5
            have HC447_5 := mk_ hl447_5
            clear hi447_5 hl447_5
            replace p447 := eq_true p447
            replace q447 := eq_true q447
            try go_wp2_with (first | ((with_reducible refine gate_callee (f := 26) rfl ?_); refine gl_ (some 62) Tryd.func26 #[.int .i64 4, .agg #[.int .i64 ((rd_T32 l1_5 0).f0), .string ((rd_T32 l1_5 0).f1), .slice A447_2 ((rd_T32 l1_5 0).f2).length c447_2, .int .i64 ((rd_T32 l1_5 0).f3), .int .i64 ((rd_T32 l1_5 0).f4), .slice A447_5 ((rd_T32 l1_5 0).f5).length c447_5]] ?_; (with_reducible refine (pentaglotlaw26_kid.calls 4 ((rd_T32 l1_5 0).f0) ((rd_T32 l1_5 0).f1) (fun k_ => k_ < w.heap.size) _ _ ((rd_T32 l1_5 0).f2) ((rd_T32 l1_5 0).f3) ((rd_T32 l1_5 0).f4) (fun k_ => k_ < w.heap.size) _ _ ((rd_T32 l1_5 0).f5) t448 t449 t450 t453 t454 t455 _ ?side1 ?side2 A50.out).mono ?_); (case side1 => exact Kd.V_mk HC447_2.out (Kd.F_below (Kd.C_F k92_heap HR447_2.out) (be2_ HB GE399 GE400))); (case side2 => exact Kd.V_mk HC447_5.out (Kd.F_below (Kd.C_F k32_heap HR447_5.out) (be2_ HB GE399 GE400))); rintro e w59 ⟨v451, v456, rfl, ho0, ho1, hb⟩; refine ⟨_, rfl, ?_⟩; have n0_ := mk_ (Kd.R_lower (Kd.R_mono (ok' := fun k_ => True) ho0 (fun _ hk_ => trivial)) (below_size (be2_ HB GE399 GE400))); have n1_ := mk_ (Kd.N_lower (Kd.N_mono (ok' := fun k_ => some k_ ≠ (v451 : Value).ownBlock ∧ k_ ≠ gb399 ∧ k_ ≠ gb400) ho1 (fun k_ hk_ => ⟨hk_.2, Or.elim hk_.1 (fun hs_ => Or.elim hs_ (fun hs_ => fun e_ => Nat.not_le.2 hs_ (by rw [e_]; exact GW399.out)) (fun hs_ => fun e_ => Nat.not_le.2 hs_ (by rw [e_]; exact GW399.out))) (fun hn_ => (Kd.freshB (g := gb399) (o := .cells #[.slice A0_0 l0_0.length c0_0, .slice A0_1 l0_1.length c0_1, .int .i64 a0_2, .slice A0_3 l0_3.length c0_3] 28 (0, 0)) (bq_ BK399) k_ hn_)), Or.elim hk_.1 (fun hs_ => Or.elim hs_ (fun hs_ => fun e_ => Nat.not_le.2 hs_ (by rw [e_]; exact GW400.out)) (fun hs_ => fun e_ => Nat.not_le.2 hs_ (by rw [e_]; exact GW400.out))) (fun hn_ => (Kd.freshB (g := gb400) (o := .cells #[.int .i64 a1_0, .string a1_1, .slice A1_2 l1_2.length c1_2, .int .i64 a1_3, .int .i64 a1_4, .slice (some ad447) l1_5.length c1_5] 32 (0, 0)) (bq_ BK400) k_ hn_))⟩)) (below_size (be2_ HB GE399 GE400))); have n2_ := mk_ (bb_ BK399 hb); have n3_ := mk_ (bb_ BK400 hb); have n4_ := mk_ (below_step (be2_ HB GE399 GE400) hb); clear BK399; clear BK400; clear HB; have HO452 := n0_; have HO457 := n1_; have BK399 := n2_; have BK400 := n3_; have HB := n4_; clear n0_ n1_ n2_ n3_ n4_; (try clear hb); (try clear hb2); (try clear hk); (try clear hi); (try clear ho0); (try clear ho1); obtain ⟨Ao60, co60, eo60⟩ := Kd.R_slice HO452.out; subst eo60; obtain ⟨Ao61, co61, eo61⟩ := Kd.N_slice HO457.out; subst eo61) | ((with_reducible refine gate_callee (f := 26) rfl ?_); refine gl_ (some 63) Tryd.func26 #[.int .i64 9, .agg #[.int .i64 t448, .string t449, .slice Ao60 t450.length co60, .int .i64 t453, .int .i64 t454, .slice Ao61 t455.length co61]] ?_; (with_reducible refine (pentaglotlaw26_kid.calls 9 t448 t449 (fun k_ => some k_ = (.slice Ao60 t450.length co60 : Value).ownBlock) _ _ t450 t453 t454 (fun k_ => (some k_ ≠ (.slice Ao60 t450.length co60 : Value).ownBlock ∧ (k_ ≠ gb399 ∧ k_ ≠ gb400))) _ _ t455 t458 t459 t460 t463 t464 t465 _ ?side1 ?side2 A51.out).mono ?_); (case side1 => exact Kd.R_V (Kd.R_tight rfl (Kd.R_types (Kd.R_types (Kd.R_apart' (HO452.out) (Kd.N_typed HO457.out) (by decide)) BK399.out (by decide)) BK400.out (by decide)))); (case side2 => exact Kd.N_V (HO457.out)); rintro e w62 ⟨v461, v466, rfl, ho0, ho1, hb⟩; refine ⟨_, rfl, ?_⟩; have HO462 := mk_ (Kd.R_lower (Kd.R_new' (Kd.R_mono (ok' := fun k_ => True) ho0 (fun _ hk_ => trivial)) (Kd.R_lt (rq_ HO452))) (below_size (be2_ HB GE399 GE400))); have HO467 := mk_ (Kd.N_lower (Kd.N_mono (ok' := fun k_ => some k_ ≠ (v461 : Value).ownBlock ∧ k_ ≠ gb399 ∧ k_ ≠ gb400) ho1 (fun k_ hk_ => ⟨hk_.2, Or.elim hk_.1 (fun hs_ => Or.elim hs_ (fun hs_ => ((Kd.R_types (Kd.R_types (Kd.R_apart' (HO452.out) (Kd.N_typed HO457.out) (by decide)) BK399.out (by decide)) BK400.out (by decide)).1 k_ hs_.symm).1.2) (fun hs_ => hs_.2.1)) (fun hn_ => (Kd.freshB (g := gb399) (o := .cells #[.slice A0_0 l0_0.length c0_0, .slice A0_1 l0_1.length c0_1, .int .i64 a0_2, .slice A0_3 l0_3.length c0_3] 28 (0, 0)) (bq_ BK399) k_ hn_)), Or.elim hk_.1 (fun hs_ => Or.elim hs_ (fun hs_ => ((Kd.R_types (Kd.R_types (Kd.R_apart' (HO452.out) (Kd.N_typed HO457.out) (by decide)) BK399.out (by decide)) BK400.out (by decide)).1 k_ hs_.symm).2) (fun hs_ => hs_.2.2)) (fun hn_ => (Kd.freshB (g := gb400) (o := .cells #[.int .i64 a1_0, .string a1_1, .slice A1_2 l1_2.length c1_2, .int .i64 a1_3, .int .i64 a1_4, .slice (some ad447) l1_5.length c1_5] 32 (0, 0)) (bq_ BK400) k_ hn_))⟩)) (below_size (be2_ HB GE399 GE400))); replace HO452 := mk_ (Kd.R_elder' (rq_ HO452) (Kd.R_base ho0) hb); replace HO457 := mk_ (Kd.N_mono (Kd.N_told (Kd.N_told (Kd.N_old (nq_ HO457) hb) (Kd.R_base ho0)) (Kd.N_base ho1)) (fun _ h_ => h_.1)); replace BK399 := mk_ (bb_ BK399 hb); replace BK400 := mk_ (bb_ BK400 hb); replace HB := mk_ (below_step (be2_ HB GE399 GE400) hb); (try clear hb); (try clear hb2); (try clear hk); (try clear hi); (try clear ho0); (try clear ho1)) | ((with_reducible refine gate_dst (N := 13) rfl ?_); (try (refine gate_guard (by rfl) ?_; dsimp only)); refine bx_ 13 #[.int .i64 0, .string (⟨#[]⟩ : ByteArray), .slice none 0 0, .int .i64 0, .int .i64 0, .slice none 0 0] 32 ?_; intro gb468 hg w63 hbox hb; have n0_ := mk_ (Kd.R_below (rq_ HO452) hb); have n1_ := mk_ (Kd.N_below (Kd.N_elderB (nq_ HO457) gb468 (Nat.le_of_eq hg.symm)) hb); have n2_ := mk_ (Kd.R_below (rq_ HO462) hb); have n3_ := mk_ (Kd.N_below (Kd.N_elderB (nq_ HO467) gb468 (Nat.le_of_eq hg.symm)) hb); have n4_ := mk_ (bb_ BK399 hb); have n5_ := mk_ (bb_ BK400 hb); have n6_ := mk_ (below_step (be2_ HB GE399 GE400) hb); have n7_ := mk_ (hbox); have n8_ := mk_ (gs_ hg (be2_ HB GE399 GE400)); have n9_ := mk_ (gs_ hg (be2_ HB GE399 GE400)); have n10_ := mk_ ((by rw [hg]; exact Nat.ne_of_lt (blk_lt (g := gb399) (o := .cells #[.slice A0_0 l0_0.length c0_0, .slice A0_1 l0_1.length c0_1, .int .i64 a0_2, .slice A0_3 l0_3.length c0_3] 28 (0, 0)) (bq_ BK399)) : gb399 ≠ gb468)); have n11_ := mk_ ((by rw [hg]; exact Nat.ne_of_gt (blk_lt (g := gb399) (o := .cells #[.slice A0_0 l0_0.length c0_0, .slice A0_1 l0_1.length c0_1, .int .i64 a0_2, .slice A0_3 l0_3.length c0_3] 28 (0, 0)) (bq_ BK399)) : gb468 ≠ gb399)); have n12_ := mk_ ((by rw [hg]; exact Nat.ne_of_lt (blk_lt (g := gb400) (o := .cells #[.int .i64 a1_0, .string a1_1, .slice A1_2 l1_2.length c1_2, .int .i64 a1_3, .int .i64 a1_4, .slice (some ad447) l1_5.length c1_5] 32 (0, 0)) (bq_ BK400)) : gb400 ≠ gb468)); have n13_ := mk_ ((by rw [hg]; exact Nat.ne_of_gt (blk_lt (g := gb400) (o := .cells #[.int .i64 a1_0, .string a1_1, .slice A1_2 l1_2.length c1_2, .int .i64 a1_3, .int .i64 a1_4, .slice (some ad447) l1_5.length c1_5] 32 (0, 0)) (bq_ BK400)) : gb468 ≠ gb400)); clear HO452; clear HO457; clear HO462; clear HO467; clear BK399; clear BK400; clear HB; have HO452 := n0_; have HO457 := n1_; have HO462 := n2_; have HO467 := n3_; have BK399 := n4_; have BK400 := n5_; have HB := n6_; have BK468 := n7_; have GW468 := n8_; have GE468 := n9_; have NB399_468 := n10_; have NB468_399 := n11_; have NB400_468 := n12_; have NB468_400 := n13_; clear n0_ n1_ n2_ n3_ n4_ n5_ n6_ n7_ n8_ n9_ n10_ n11_ n12_ n13_; clear hb hbox hg; have hnb64 := NB468_399.out; have hnc64 := NB399_468.out; have hnb65 := NB468_400.out; have hnc65 := NB400_468.out; obtain ⟨_, _, _, _, _, _, _, _, _, _, _, _⟩ := hb6_ BK468; obtain ⟨Ao67, co67, eo67⟩ := Kd.R_slice HO462.out; subst eo67; obtain ⟨Ao68, co68, eo68⟩ := Kd.N_slice HO467.out; subst eo68; obtain ⟨_, _, _, _, _, _, _, _, _, _, _, _⟩ := hb6_ BK400; obtain ⟨_, _, _, _, _, _, _, _⟩ := hb4_ BK399) | ((with_reducible refine gate_callee (f := 20) rfl ?_); refine gl_ (some 72) Tryd.func20 #[.agg #[.slice A0_0 l0_0.length c0_0, .slice A0_1 l0_1.length c0_1, .int .i64 a0_2, .slice A0_3 l0_3.length c0_3], .agg #[.int .i64 a1_0, .string a1_1, .slice A1_2 l1_2.length c1_2, .int .i64 a1_3, .int .i64 a1_4, .slice (some ad447) l1_5.length c1_5], .int .i64 a2, .int .i64 a3] ?_; (with_reducible refine (pentaglotlaw26_at.calls kj41 _ _ l0_0 _ _ l0_1 a0_2 _ _ l0_3 a1_0 a1_1 _ _ l1_2 a1_3 a1_4 _ _ l1_5 a2 a3 t469 true _ ?side1 ?side2 ?side3 ?side4 ?side5 ?side6 ?side7 ?side8 ?side9 ?side10 A52.out (tb_on HTB.out (be3_ HB GE399 GE400 GE468))).mono ?_); (case side1 => exact Kd.C_below HR0_0.out (be3_ HB GE399 GE400 GE468)); (case side2 => exact HC0_0.out); (case side3 => exact Kd.C_below HR0_1.out (be3_ HB GE399 GE400 GE468)); (case side4 => exact HC0_1.out); (case side5 => exact Kd.C_below HR0_3.out (be3_ HB GE399 GE400 GE468)); (case side6 => exact HC0_3.out); (case side7 => exact Kd.C_below HR1_2.out (be3_ HB GE399 GE400 GE468)); (case side8 => exact HC1_2.out); (case side9 => exact Kd.C_below HR1_5.out (be3_ HB GE399 GE400 GE468)); (case side10 => exact HC1_5.out); rintro e w71 ⟨rfl, hb⟩; refine ⟨_, rfl, ?_⟩; have n0_ := mk_ (Kd.R_below (by refine sr_ ?_; exact (Kd.R_mono (Kd.R_far (p := ⟨gb468, 1, none⟩) (Kd.R_far (p := ⟨gb468, 5, none⟩) (Kd.R_far (p := ⟨gb468, 4, none⟩) (Kd.R_far (p := ⟨gb468, 3, none⟩) (Kd.R_far (p := ⟨gb468, 2, none⟩) (Kd.R_far (p := ⟨gb468, 1, none⟩) (Kd.R_far (p := ⟨gb468, 0, none⟩) (Kd.R_types HO452.out BK468.out (by decide)) (fun _ hk => hk.2) (.int .i64 t458)) (fun _ hk => hk.2) (.string t459)) (fun _ hk => hk.2) (.slice Ao67 t460.length co67)) (fun _ hk => hk.2) (.int .i64 t463)) (fun _ hk => hk.2) (.int .i64 t464)) (fun _ hk => hk.2) (.slice Ao68 t465.length co68)) (fun _ hk => hk.2) (.string a1_1)) (fun _ h_ => h_.1))) hb); have n1_ := mk_ (Kd.N_below (by refine sn_ ?_; exact (Kd.N_mono (Kd.N_far (p := ⟨gb468, 1, none⟩) (Kd.N_far (p := ⟨gb468, 5, none⟩) (Kd.N_far (p := ⟨gb468, 4, none⟩) (Kd.N_far (p := ⟨gb468, 3, none⟩) (Kd.N_far (p := ⟨gb468, 2, none⟩) (Kd.N_far (p := ⟨gb468, 1, none⟩) (Kd.N_far (p := ⟨gb468, 0, none⟩) (Kd.N_mono HO457.out (fun k_ hk => (⟨hk, hk.2⟩ : _ ∧ k_ ≠ gb468))) (fun _ hk => hk.2) (.int .i64 t458)) (fun _ hk => hk.2) (.string t459)) (fun _ hk => hk.2) (.slice Ao67 t460.length co67)) (fun _ hk => hk.2) (.int .i64 t463)) (fun _ hk => hk.2) (.int .i64 t464)) (fun _ hk => hk.2) (.slice Ao68 t465.length co68)) (fun _ hk => hk.2) (.string a1_1)) (fun _ h_ => h_.1))) hb); have n2_ := mk_ (Kd.R_below (by refine sr_ ?_; exact (Kd.R_mono (Kd.R_far (p := ⟨gb468, 1, none⟩) (Kd.R_far (p := ⟨gb468, 5, none⟩) (Kd.R_far (p := ⟨gb468, 4, none⟩) (Kd.R_far (p := ⟨gb468, 3, none⟩) (Kd.R_far (p := ⟨gb468, 2, none⟩) (Kd.R_far (p := ⟨gb468, 1, none⟩) (Kd.R_far (p := ⟨gb468, 0, none⟩) (Kd.R_types HO462.out BK468.out (by decide)) (fun _ hk => hk.2) (.int .i64 t458)) (fun _ hk => hk.2) (.string t459)) (fun _ hk => hk.2) (.slice Ao67 t460.length co67)) (fun _ hk => hk.2) (.int .i64 t463)) (fun _ hk => hk.2) (.int .i64 t464)) (fun _ hk => hk.2) (.slice Ao68 t465.length co68)) (fun _ hk => hk.2) (.string a1_1)) (fun _ h_ => h_.1))) hb); have n3_ := mk_ (Kd.N_below (by refine sn_ ?_; exact (Kd.N_mono (Kd.N_far (p := ⟨gb468, 1, none⟩) (Kd.N_far (p := ⟨gb468, 5, none⟩) (Kd.N_far (p := ⟨gb468, 4, none⟩) (Kd.N_far (p := ⟨gb468, 3, none⟩) (Kd.N_far (p := ⟨gb468, 2, none⟩) (Kd.N_far (p := ⟨gb468, 1, none⟩) (Kd.N_far (p := ⟨gb468, 0, none⟩) (Kd.N_mono HO467.out (fun k_ hk => (⟨hk, hk.2⟩ : _ ∧ k_ ≠ gb468))) (fun _ hk => hk.2) (.int .i64 t458)) (fun _ hk => hk.2) (.string t459)) (fun _ hk => hk.2) (.slice Ao67 t460.length co67)) (fun _ hk => hk.2) (.int .i64 t463)) (fun _ hk => hk.2) (.int .i64 t464)) (fun _ hk => hk.2) (.slice Ao68 t465.length co68)) (fun _ hk => hk.2) (.string a1_1)) (fun _ h_ => h_.1))) hb); have n4_ := mk_ (blk_below (g := gb399) (o := .cells #[.slice A0_0 l0_0.length c0_0, .slice A0_1 l0_1.length c0_1, .int .i64 a0_2, .slice A0_3 l0_3.length c0_3] 28 (0, 0)) (by refine sb_ ?_; refine blk_far ?_ NB399_468.out _; refine sb_ ?_; refine blk_far ?_ NB399_468.out _; refine sb_ ?_; refine blk_far ?_ NB399_468.out _; refine sb_ ?_; refine blk_far ?_ NB399_468.out _; refine sb_ ?_; refine blk_far ?_ NB399_468.out _; refine sb_ ?_; refine blk_far ?_ NB399_468.out _; refine sb_ ?_; refine blk_far ?_ NB399_468.out _; refine sb_ ?_; exact BK399.out) hb); have n5_ := mk_ (blk_below (g := gb400) (o := .cells #[.int .i64 a1_0, .string a1_1, .slice A1_2 l1_2.length c1_2, .int .i64 a1_3, .int .i64 a1_4, .slice (some ad447) l1_5.length c1_5] 32 (0, 0)) (by refine sb_ ?_; refine blk_far ?_ NB400_468.out _; refine sb_ ?_; refine blk_far ?_ NB400_468.out _; refine sb_ ?_; refine blk_far ?_ NB400_468.out _; refine sb_ ?_; refine blk_far ?_ NB400_468.out _; refine sb_ ?_; refine blk_far ?_ NB400_468.out _; refine sb_ ?_; refine blk_far ?_ NB400_468.out _; refine sb_ ?_; refine blk_far ?_ NB400_468.out _; refine sb_ ?_; exact BK400.out) hb); have n6_ := mk_ (blk_below (g := gb468) (o := .cells #[.int .i64 t458, .string a1_1, .slice Ao67 t460.length co67, .int .i64 t463, .int .i64 t464, .slice Ao68 t465.length co68] 32 (0, 0)) (by refine sb_ ?_; refine blk_put (cs := #[.int .i64 t458, .string t459, .slice Ao67 t460.length co67, .int .i64 t463, .int .i64 t464, .slice Ao68 t465.length co68]) ?_ 1 _ rfl; refine sb_ ?_; refine blk_put (cs := #[.int .i64 t458, .string t459, .slice Ao67 t460.length co67, .int .i64 t463, .int .i64 t464, .slice none 0 0]) ?_ 5 _ rfl; refine sb_ ?_; refine blk_put (cs := #[.int .i64 t458, .string t459, .slice Ao67 t460.length co67, .int .i64 t463, .int .i64 0, .slice none 0 0]) ?_ 4 _ rfl; refine sb_ ?_; refine blk_put (cs := #[.int .i64 t458, .string t459, .slice Ao67 t460.length co67, .int .i64 0, .int .i64 0, .slice none 0 0]) ?_ 3 _ rfl; refine sb_ ?_; refine blk_put (cs := #[.int .i64 t458, .string t459, .slice none 0 0, .int .i64 0, .int .i64 0, .slice none 0 0]) ?_ 2 _ rfl; refine sb_ ?_; refine blk_put (cs := #[.int .i64 t458, .string (⟨#[]⟩ : ByteArray), .slice none 0 0, .int .i64 0, .int .i64 0, .slice none 0 0]) ?_ 1 _ rfl; refine sb_ ?_; refine blk_put (cs := #[.int .i64 0, .string (⟨#[]⟩ : ByteArray), .slice none 0 0, .int .i64 0, .int .i64 0, .slice none 0 0]) ?_ 0 _ rfl; refine sb_ ?_; exact BK468.out) hb); have n7_ := mk_ (below_step (be3_ HB GE399 GE400 GE468) hb); clear HO452; clear HO457; clear HO462; clear HO467; clear BK399; clear BK400; clear BK468; clear HB; have HO452 := n0_; have HO457 := n1_; have HO462 := n2_; have HO467 := n3_; have BK399 := n4_; have BK400 := n5_; have BK468 := n6_; have HB := n7_; clear n0_ n1_ n2_ n3_ n4_ n5_ n6_ n7_; (try clear hb); (try clear hb2); (try clear hk); (try clear hi)))
            have n0_ := mk_ (Kd.R_drew HO452.out)
            have n1_ := mk_ (Kd.N_drew HO457.out)
            have n2_ := mk_ (Kd.R_drew HO462.out)
            have n3_ := mk_ (Kd.N_drew HO467.out)
            have n4_ := mk_ (blk_drew BK399.out)
            have n5_ := mk_ (blk_drew BK400.out)
            have n6_ := mk_ (blk_drew BK468.out)
            have n7_ := mk_ (below_drew1 HB.out)
            clear HO452
            clear HO457
            clear HO462
            clear HO467
            clear BK399
            clear BK400
            clear BK468
            clear HB
            have HO452 := n0_
            have HO457 := n1_
            have HO462 := n2_
            have HO467 := n3_
            have BK399 := n4_
            have BK400 := n5_
            have BK468 := n6_
            have HB := n7_
            clear n0_ n1_ n2_ n3_ n4_ n5_ n6_ n7_
            refine start_ (n := 11) (S := fun w' => w'.cell? ⟨gb399, 0, none⟩ = some (.slice A0_0 l0_0.length c0_0) ∧ w'.cell? ⟨gb399, 1, none⟩ = some (.slice A0_1 l0_1.length c0_1) ∧ w'.cell? ⟨gb399, 2, none⟩ = some (.int .i64 a0_2) ∧ w'.cell? ⟨gb399, 3, none⟩ = some (.slice A0_3 l0_3.length c0_3) ∧ w'.cell? ⟨gb468, 0, none⟩ = some (.int .i64 t458) ∧ w'.cell? ⟨gb468, 1, none⟩ = some (.string a1_1) ∧ w'.cell? ⟨gb468, 2, none⟩ = some (.slice Ao67 t460.length co67) ∧ w'.cell? ⟨gb468, 3, none⟩ = some (.int .i64 t463) ∧ w'.cell? ⟨gb468, 4, none⟩ = some (.int .i64 t464) ∧ w'.cell? ⟨gb468, 5, none⟩ = some (.slice Ao68 t465.length co68)) (ds := []) #[false, false, false, false, false, false, false, false, false, false, false] (by kernel_rfl) rfl rfl ⟨(blk_cell BK399.out 0).trans rfl, (blk_cell BK399.out 1).trans rfl, (blk_cell BK399.out 2).trans rfl, (blk_cell BK399.out 3).trans rfl, (blk_cell BK468.out 0).trans rfl, (blk_cell BK468.out 1).trans rfl, (blk_cell BK468.out 2).trans rfl, (blk_cell BK468.out 3).trans rfl, (blk_cell BK468.out 4).trans rfl, (blk_cell BK468.out 5).trans rfl⟩ (fun hHeld => ?_); refine with_tabW pentaglotlaw26_EvaluateDuals.tab14 pentaglotlaw26_EvaluateDuals.bits14 (fun HT_ HW_ => ?_)
            generalize w71.drew = w72 at HO452 HO457 HO462 HO467 BK399 BK400 BK468 HB hHeld ⊢
            refine pu_ 3 (some 79) ?_
            refine pu_ 4 (some 80) ?_
            refine tk_ 0 (some 76) hHeld ?_
            refine tk_ 1 (some 77) hHeld ?_
            refine on_ 2 (some 78) (fun K hK => ?_)
            refine goes_ Tryd.func26 (by kernel_rfl) rfl #[.int .i64 4, .agg #[.int .i64 t458, .string a1_1, .slice Ao67 t460.length co67, .int .i64 t463, .int .i64 t464, .slice Ao68 t465.length co68]] (by rfl) rfl rfl (by (try simp only [List.map_toArray, List.map_cons, List.map_nil]); first | done | rfl | (simp only [List.length_drop, List.length_take]; rfl)) ?_
            with_reducible refine (pentaglotlaw26_kid.calls 4 t458 a1_1 (fun k_ => some k_ = (.slice Ao67 t460.length co67 : Value).ownBlock) _ _ t460 t463 t464 (fun k_ => ((some k_ ≠ (.slice Ao67 t460.length co67 : Value).ownBlock ∧ (k_ ≠ gb399 ∧ k_ ≠ gb400)) ∧ k_ ≠ gb468)) _ _ t465 t471 t472 t473 t476 t477 t478 _ ?side1 ?side2 A53.out).mono ?_
            (case side1 => exact Kd.R_V (Kd.R_tight rfl (Kd.R_types (Kd.R_types (Kd.R_types (Kd.R_apart' (Kd.R_apart' (HO462.out) (Kd.N_typed HO457.out) (by decide)) (Kd.N_typed HO467.out) (by decide)) BK399.out (by decide)) BK400.out (by decide)) BK468.out (by decide))))
            (case side2 => exact Kd.N_V (HO467.out))
            rintro e w73 ⟨v474, v479, rfl, ho0, ho1, hb⟩
            refine ⟨_, rfl, ?_⟩
            have n0_ := mk_ (Kd.R_elder' (rq_ HO452) (Kd.R_base ho0) hb)
            have n1_ := mk_ (Kd.N_mono (Kd.N_told (Kd.N_told (Kd.N_old (nq_ HO457) hb) (Kd.R_base ho0)) (Kd.N_base ho1)) (fun _ h_ => h_.1))
            have n2_ := mk_ (Kd.R_elder' (rq_ HO462) (Kd.R_base ho0) hb)
            have n3_ := mk_ (Kd.N_mono (Kd.N_told (Kd.N_told (Kd.N_old (nq_ HO467) hb) (Kd.R_base ho0)) (Kd.N_base ho1)) (fun _ h_ => h_.1))
            have n4_ := mk_ (Kd.R_lower (Kd.R_new' (Kd.R_new' (Kd.R_mono (ok' := fun k_ => True) ho0 (fun _ hk_ => trivial)) (Kd.R_lt (rq_ HO452))) (Kd.R_lt (rq_ HO462))) (below_size (be3_ HB GE399 GE400 GE468)))
            have n5_ := mk_ (Kd.N_lower (Kd.N_mono (ok' := fun k_ => some k_ ≠ (v474 : Value).ownBlock ∧ k_ ≠ gb399 ∧ k_ ≠ gb400 ∧ k_ ≠ gb468) ho1 (fun k_ hk_ => ⟨hk_.2, Or.elim hk_.1 (fun hs_ => Or.elim hs_ (fun hs_ => ((Kd.R_types (Kd.R_types (Kd.R_types (Kd.R_apart' (Kd.R_apart' (HO462.out) (Kd.N_typed HO457.out) (by decide)) (Kd.N_typed HO467.out) (by decide)) BK399.out (by decide)) BK400.out (by decide)) BK468.out (by decide)).1 k_ hs_.symm).1.1.2) (fun hs_ => hs_.1.2.1)) (fun hn_ => (Kd.freshB (g := gb399) (o := .cells #[.slice A0_0 l0_0.length c0_0, .slice A0_1 l0_1.length c0_1, .int .i64 a0_2, .slice A0_3 l0_3.length c0_3] 28 (0, 0)) (bq_ BK399) k_ hn_)), Or.elim hk_.1 (fun hs_ => Or.elim hs_ (fun hs_ => ((Kd.R_types (Kd.R_types (Kd.R_types (Kd.R_apart' (Kd.R_apart' (HO462.out) (Kd.N_typed HO457.out) (by decide)) (Kd.N_typed HO467.out) (by decide)) BK399.out (by decide)) BK400.out (by decide)) BK468.out (by decide)).1 k_ hs_.symm).1.2) (fun hs_ => hs_.1.2.2)) (fun hn_ => (Kd.freshB (g := gb400) (o := .cells #[.int .i64 a1_0, .string a1_1, .slice A1_2 l1_2.length c1_2, .int .i64 a1_3, .int .i64 a1_4, .slice (some ad447) l1_5.length c1_5] 32 (0, 0)) (bq_ BK400) k_ hn_)), Or.elim hk_.1 (fun hs_ => Or.elim hs_ (fun hs_ => ((Kd.R_types (Kd.R_types (Kd.R_types (Kd.R_apart' (Kd.R_apart' (HO462.out) (Kd.N_typed HO457.out) (by decide)) (Kd.N_typed HO467.out) (by decide)) BK399.out (by decide)) BK400.out (by decide)) BK468.out (by decide)).1 k_ hs_.symm).2) (fun hs_ => hs_.2)) (fun hn_ => (Kd.freshB (g := gb468) (o := .cells #[.int .i64 t458, .string a1_1, .slice Ao67 t460.length co67, .int .i64 t463, .int .i64 t464, .slice Ao68 t465.length co68] 32 (0, 0)) (bq_ BK468) k_ hn_))⟩)) (below_size (be3_ HB GE399 GE400 GE468)))
            have n6_ := mk_ (bb_ BK399 hb)
            have n7_ := mk_ (bb_ BK400 hb)
            have n8_ := mk_ (bb_ BK468 hb)
            have n9_ := mk_ (below_step (be3_ HB GE399 GE400 GE468) hb)
            clear HO452
            clear HO457
            clear HO462
            clear HO467
            clear BK399
            clear BK400
            clear BK468
            clear HB
            have HO452 := n0_
            have HO457 := n1_
            have HO462 := n2_
            have HO467 := n3_
            have HO475 := n4_
            have HO480 := n5_
            have BK399 := n6_
            have BK400 := n7_
            have BK468 := n8_
            have HB := n9_
            clear n0_ n1_ n2_ n3_ n4_ n5_ n6_ n7_ n8_ n9_
            (try clear hb)
            (try clear hb2)
            (try clear hk)
            (try clear hi)
            (try clear ho0)
            (try clear ho1)
            obtain ⟨Ao74, co74, eo74⟩ := Kd.R_slice HO475.out
            (first | subst eo74 | (injection eo74 with f1_ f2_ f3_; have f4_ := f1_.symm; have f5_ := f3_.symm; clear f1_ f2_ f3_; subst f4_; subst f5_))
            obtain ⟨Ao75, co75, eo75⟩ := Kd.N_slice HO480.out
            (first | subst eo75 | (injection eo75 with f1_ f2_ f3_; have f4_ := f1_.symm; have f5_ := f3_.symm; clear f1_ f2_ f3_; subst f4_; subst f5_))
            refine hK.out _ _ ⟨(blk_cell BK399.out 0).trans rfl, (blk_cell BK399.out 1).trans rfl, (blk_cell BK399.out 2).trans rfl, (blk_cell BK399.out 3).trans rfl, (blk_cell BK468.out 0).trans rfl, (blk_cell BK468.out 1).trans rfl, (blk_cell BK468.out 2).trans rfl, (blk_cell BK468.out 3).trans rfl, (blk_cell BK468.out 4).trans rfl, (blk_cell BK468.out 5).trans rfl⟩ (fun hHeld => ?_)
            clear hK K
            refine no_ (N := some 78) ?_
            refine on_ 5 (some 81) (fun K hK => ?_)
            refine goes_ Tryd.func20 (by kernel_rfl) rfl #[.agg #[.slice A0_0 l0_0.length c0_0, .slice A0_1 l0_1.length c0_1, .int .i64 a0_2, .slice A0_3 l0_3.length c0_3], .agg #[.int .i64 t471, .string t472, .slice Ao74 t473.length co74, .int .i64 t476, .int .i64 t477, .slice Ao75 t478.length co75], .int .i64 a2, .int .i64 a3] (by rfl) rfl rfl (by (try simp only [List.map_toArray, List.map_cons, List.map_nil]); first | done | rfl | (simp only [List.length_drop, List.length_take]; rfl)) ?_
            with_reducible refine (pentaglotlaw26_at.calls kj41 _ _ l0_0 _ _ l0_1 a0_2 _ _ l0_3 t471 t472 _ _ t473 t476 t477 _ _ t478 a2 a3 t481 true _ ?side1 ?side2 ?side3 ?side4 ?side5 ?side6 ?side7 ?side8 ?side9 ?side10 A54.out (tb_on HTB.out (be3_ HB GE399 GE400 GE468))).mono ?_
            (case side1 => exact cs_ (Kd.C_below HR0_0.out HB.out))
            (case side2 => exact HC0_0.out)
            (case side3 => exact cs_ (Kd.C_below HR0_1.out HB.out))
            (case side4 => exact HC0_1.out)
            (case side5 => exact cs_ (Kd.C_below HR0_3.out HB.out))
            (case side6 => exact HC0_3.out)
            (case side7 => repeat (first | exact (Kd.R_reads' HO475.out).2.2 | (with_reducible refine Kd.C_alloc ?_ _) | (with_reducible refine Kd.C_drewN ?_ _) | (with_reducible refine Kd.C_drew ?_)))
            (case side8 => exact (Kd.R_reads' HO475.out).2.1)
            (case side9 => repeat (first | exact (Kd.N_reads' HO480.out).2.2 | (with_reducible refine Kd.C_alloc ?_ _) | (with_reducible refine Kd.C_drewN ?_ _) | (with_reducible refine Kd.C_drew ?_)))
            (case side10 => exact (Kd.N_reads' HO480.out).2.1)
            rintro e w76 ⟨rfl, hb⟩
            refine ⟨_, rfl, ?_⟩
            have n0_ := mk_ (Kd.R_below (rq_ HO452) hb)
            have n1_ := mk_ (Kd.N_below (nq_ HO457) hb)
            have n2_ := mk_ (Kd.R_below (rq_ HO462) hb)
            have n3_ := mk_ (Kd.N_below (nq_ HO467) hb)
            have n4_ := mk_ (Kd.R_below (rq_ HO475) hb)
            have n5_ := mk_ (Kd.N_below (nq_ HO480) hb)
            have n6_ := mk_ (bb_ BK399 hb)
            have n7_ := mk_ (bb_ BK400 hb)
            have n8_ := mk_ (bb_ BK468 hb)
            have n9_ := mk_ (below_step (be3_ HB GE399 GE400 GE468) hb)
            clear HO452
            clear HO457
            clear HO462
            clear HO467
            clear HO475
            clear HO480
            clear BK399
            clear BK400
            clear BK468
            clear HB
            have HO452 := n0_
            have HO457 := n1_
            have HO462 := n2_
            have HO467 := n3_
            have HO475 := n4_
            have HO480 := n5_
            have BK399 := n6_
            have BK400 := n7_
            have BK468 := n8_
            have HB := n9_
            clear n0_ n1_ n2_ n3_ n4_ n5_ n6_ n7_ n8_ n9_
            (try clear hb)
            (try clear hb2)
            (try clear hk)
            (try clear hi)
            refine hK.out _ _ ⟨(blk_cell BK399.out 0).trans rfl, (blk_cell BK399.out 1).trans rfl, (blk_cell BK399.out 2).trans rfl, (blk_cell BK399.out 3).trans rfl, (blk_cell BK468.out 0).trans rfl, (blk_cell BK468.out 1).trans rfl, (blk_cell BK468.out 2).trans rfl, (blk_cell BK468.out 3).trans rfl, (blk_cell BK468.out 4).trans rfl, (blk_cell BK468.out 5).trans rfl⟩ (fun hHeld => ?_)
            clear hK K
            refine no_ (N := some 81) ?_
            refine pu_ 6 (some 75) ?_
            refine pu_ 7 (some 82) ?_
            refine pu_ 8 (some 83) ?_
            refine pu_ 9 (some 11) ?_
            refine pu_ 10 (some 12) ?_
            refine done_ (done_of HT_.out (by kernel_rfl)) ?_
            try go_wp2
            go_ret
            exact ⟨er_, be3_ HB GE399 GE400 GE468⟩
           ·replace c56 := Bool.eq_false_iff.mpr c56
            subst c56
            rw [if_neg nf_] at H
            obtain rfl := Option.some.inj H
            have hnb77 := NB400_399.out
            have hnc77 := NB399_400.out
            obtain ⟨_, _, _, _, _, _, _, _, _, _, _, _⟩ := hb6_ BK400
            have p447 : 0 ≤ (0 : Int) := (by omega)
            have q447 : 0 < (l1_5.length : Int) := of_decide_eq_true (by first | (with_reducible assumption) | assumption)
            obtain ⟨ad447, A447_2, c447_2, A447_5, c447_5, e447, hx447_0, hx447_1, hx447_2, hx447_3, hx447_4, hx447_5, hl447_2, hi447_2, hl447_5, hi447_5⟩ := at_T32 HR1_5.out 0 p447 q447
            cases e447
            have qi447 : (0 < l1_5.length) = True := eq_true (by omega)
            (try rw [show ((0 : Int)).toNat = 0 from rfl] at hx447_0)
            (try rw [show 0 * 6 = 0 from rfl] at hx447_0)
            (try rw [Addr.add_zero'] at hx447_0)
            (try rw [show ((0 : Int)).toNat = 0 from rfl] at hx447_1)
            (try rw [show 0 * 6 = 0 from rfl] at hx447_1)
            (try rw [Addr.add_zero'] at hx447_1)
            (try rw [show ((0 : Int)).toNat = 0 from rfl] at hx447_2)
            (try rw [show 0 * 6 = 0 from rfl] at hx447_2)
            (try rw [Addr.add_zero'] at hx447_2)
            (try rw [show ((0 : Int)).toNat = 0 from rfl] at hx447_3)
            (try rw [show 0 * 6 = 0 from rfl] at hx447_3)
            (try rw [Addr.add_zero'] at hx447_3)
            (try rw [show ((0 : Int)).toNat = 0 from rfl] at hx447_4)
            (try rw [show 0 * 6 = 0 from rfl] at hx447_4)
            (try rw [Addr.add_zero'] at hx447_4)
            (try rw [show ((0 : Int)).toNat = 0 from rfl] at hx447_5)
            (try rw [show 0 * 6 = 0 from rfl] at hx447_5)
            (try rw [Addr.add_zero'] at hx447_5)
            replace hx447_0 := cb_ HB hx447_0
            replace hx447_1 := cb_ HB hx447_1
            replace hx447_2 := cb_ HB hx447_2
            replace hx447_3 := cb_ HB hx447_3
            replace hx447_4 := cb_ HB hx447_4
            replace hx447_5 := cb_ HB hx447_5
            have HR447_2 := mk_ hi447_2
            have HC447_2 := mk_ hl447_2
            clear hi447_2 hl447_2
            have HR447_5 := mk_ hi447_5
            have HC447_5 := mk_ hl447_5
            clear hi447_5 hl447_5
            replace p447 := eq_true p447
            replace q447 := eq_true q447
            try go_wp2_with (first | ((with_reducible refine gate_callee (f := 26) rfl ?_); refine gl_ (some 62) Tryd.func26 #[.int .i64 4, .agg #[.int .i64 ((rd_T32 l1_5 0).f0), .string ((rd_T32 l1_5 0).f1), .slice A447_2 ((rd_T32 l1_5 0).f2).length c447_2, .int .i64 ((rd_T32 l1_5 0).f3), .int .i64 ((rd_T32 l1_5 0).f4), .slice A447_5 ((rd_T32 l1_5 0).f5).length c447_5]] ?_; (with_reducible refine (pentaglotlaw26_kid.calls 4 ((rd_T32 l1_5 0).f0) ((rd_T32 l1_5 0).f1) (fun k_ => k_ < w.heap.size) _ _ ((rd_T32 l1_5 0).f2) ((rd_T32 l1_5 0).f3) ((rd_T32 l1_5 0).f4) (fun k_ => k_ < w.heap.size) _ _ ((rd_T32 l1_5 0).f5) t448 t449 t450 t453 t454 t455 _ ?side1 ?side2 A50.out).mono ?_); (case side1 => exact Kd.V_mk HC447_2.out (Kd.F_below (Kd.C_F k92_heap HR447_2.out) (be2_ HB GE399 GE400))); (case side2 => exact Kd.V_mk HC447_5.out (Kd.F_below (Kd.C_F k32_heap HR447_5.out) (be2_ HB GE399 GE400))); rintro e w79 ⟨v451, v456, rfl, ho0, ho1, hb⟩; refine ⟨_, rfl, ?_⟩; have n0_ := mk_ (Kd.R_lower (Kd.R_mono (ok' := fun k_ => True) ho0 (fun _ hk_ => trivial)) (below_size (be2_ HB GE399 GE400))); have n1_ := mk_ (Kd.N_lower (Kd.N_mono (ok' := fun k_ => some k_ ≠ (v451 : Value).ownBlock ∧ k_ ≠ gb399 ∧ k_ ≠ gb400) ho1 (fun k_ hk_ => ⟨hk_.2, Or.elim hk_.1 (fun hs_ => Or.elim hs_ (fun hs_ => fun e_ => Nat.not_le.2 hs_ (by rw [e_]; exact GW399.out)) (fun hs_ => fun e_ => Nat.not_le.2 hs_ (by rw [e_]; exact GW399.out))) (fun hn_ => (Kd.freshB (g := gb399) (o := .cells #[.slice A0_0 l0_0.length c0_0, .slice A0_1 l0_1.length c0_1, .int .i64 a0_2, .slice A0_3 l0_3.length c0_3] 28 (0, 0)) (bq_ BK399) k_ hn_)), Or.elim hk_.1 (fun hs_ => Or.elim hs_ (fun hs_ => fun e_ => Nat.not_le.2 hs_ (by rw [e_]; exact GW400.out)) (fun hs_ => fun e_ => Nat.not_le.2 hs_ (by rw [e_]; exact GW400.out))) (fun hn_ => (Kd.freshB (g := gb400) (o := .cells #[.int .i64 a1_0, .string a1_1, .slice A1_2 l1_2.length c1_2, .int .i64 a1_3, .int .i64 a1_4, .slice (some ad447) l1_5.length c1_5] 32 (0, 0)) (bq_ BK400) k_ hn_))⟩)) (below_size (be2_ HB GE399 GE400))); have n2_ := mk_ (bb_ BK399 hb); have n3_ := mk_ (bb_ BK400 hb); have n4_ := mk_ (below_step (be2_ HB GE399 GE400) hb); clear BK399; clear BK400; clear HB; have HO452 := n0_; have HO457 := n1_; have BK399 := n2_; have BK400 := n3_; have HB := n4_; clear n0_ n1_ n2_ n3_ n4_; (try clear hb); (try clear hb2); (try clear hk); (try clear hi); (try clear ho0); (try clear ho1); obtain ⟨Ao80, co80, eo80⟩ := Kd.R_slice HO452.out; subst eo80; obtain ⟨Ao81, co81, eo81⟩ := Kd.N_slice HO457.out; subst eo81) | ((with_reducible refine gate_callee (f := 26) rfl ?_); refine gl_ (some 63) Tryd.func26 #[.int .i64 9, .agg #[.int .i64 t448, .string t449, .slice Ao80 t450.length co80, .int .i64 t453, .int .i64 t454, .slice Ao81 t455.length co81]] ?_; (with_reducible refine (pentaglotlaw26_kid.calls 9 t448 t449 (fun k_ => some k_ = (.slice Ao80 t450.length co80 : Value).ownBlock) _ _ t450 t453 t454 (fun k_ => (some k_ ≠ (.slice Ao80 t450.length co80 : Value).ownBlock ∧ (k_ ≠ gb399 ∧ k_ ≠ gb400))) _ _ t455 t458 t459 t460 t463 t464 t465 _ ?side1 ?side2 A51.out).mono ?_); (case side1 => exact Kd.R_V (Kd.R_tight rfl (Kd.R_types (Kd.R_types (Kd.R_apart' (HO452.out) (Kd.N_typed HO457.out) (by decide)) BK399.out (by decide)) BK400.out (by decide)))); (case side2 => exact Kd.N_V (HO457.out)); rintro e w82 ⟨v461, v466, rfl, ho0, ho1, hb⟩; refine ⟨_, rfl, ?_⟩; have HO462 := mk_ (Kd.R_lower (Kd.R_new' (Kd.R_mono (ok' := fun k_ => True) ho0 (fun _ hk_ => trivial)) (Kd.R_lt (rq_ HO452))) (below_size (be2_ HB GE399 GE400))); have HO467 := mk_ (Kd.N_lower (Kd.N_mono (ok' := fun k_ => some k_ ≠ (v461 : Value).ownBlock ∧ k_ ≠ gb399 ∧ k_ ≠ gb400) ho1 (fun k_ hk_ => ⟨hk_.2, Or.elim hk_.1 (fun hs_ => Or.elim hs_ (fun hs_ => ((Kd.R_types (Kd.R_types (Kd.R_apart' (HO452.out) (Kd.N_typed HO457.out) (by decide)) BK399.out (by decide)) BK400.out (by decide)).1 k_ hs_.symm).1.2) (fun hs_ => hs_.2.1)) (fun hn_ => (Kd.freshB (g := gb399) (o := .cells #[.slice A0_0 l0_0.length c0_0, .slice A0_1 l0_1.length c0_1, .int .i64 a0_2, .slice A0_3 l0_3.length c0_3] 28 (0, 0)) (bq_ BK399) k_ hn_)), Or.elim hk_.1 (fun hs_ => Or.elim hs_ (fun hs_ => ((Kd.R_types (Kd.R_types (Kd.R_apart' (HO452.out) (Kd.N_typed HO457.out) (by decide)) BK399.out (by decide)) BK400.out (by decide)).1 k_ hs_.symm).2) (fun hs_ => hs_.2.2)) (fun hn_ => (Kd.freshB (g := gb400) (o := .cells #[.int .i64 a1_0, .string a1_1, .slice A1_2 l1_2.length c1_2, .int .i64 a1_3, .int .i64 a1_4, .slice (some ad447) l1_5.length c1_5] 32 (0, 0)) (bq_ BK400) k_ hn_))⟩)) (below_size (be2_ HB GE399 GE400))); replace HO452 := mk_ (Kd.R_elder' (rq_ HO452) (Kd.R_base ho0) hb); replace HO457 := mk_ (Kd.N_mono (Kd.N_told (Kd.N_told (Kd.N_old (nq_ HO457) hb) (Kd.R_base ho0)) (Kd.N_base ho1)) (fun _ h_ => h_.1)); replace BK399 := mk_ (bb_ BK399 hb); replace BK400 := mk_ (bb_ BK400 hb); replace HB := mk_ (below_step (be2_ HB GE399 GE400) hb); (try clear hb); (try clear hb2); (try clear hk); (try clear hi); (try clear ho0); (try clear ho1)) | ((with_reducible refine gate_dst (N := 13) rfl ?_); (try (refine gate_guard (by rfl) ?_; dsimp only)); refine bx_ 13 #[.int .i64 0, .string (⟨#[]⟩ : ByteArray), .slice none 0 0, .int .i64 0, .int .i64 0, .slice none 0 0] 32 ?_; intro gb468 hg w83 hbox hb; have n0_ := mk_ (Kd.R_below (rq_ HO452) hb); have n1_ := mk_ (Kd.N_below (Kd.N_elderB (nq_ HO457) gb468 (Nat.le_of_eq hg.symm)) hb); have n2_ := mk_ (Kd.R_below (rq_ HO462) hb); have n3_ := mk_ (Kd.N_below (Kd.N_elderB (nq_ HO467) gb468 (Nat.le_of_eq hg.symm)) hb); have n4_ := mk_ (bb_ BK399 hb); have n5_ := mk_ (bb_ BK400 hb); have n6_ := mk_ (below_step (be2_ HB GE399 GE400) hb); have n7_ := mk_ (hbox); have n8_ := mk_ (gs_ hg (be2_ HB GE399 GE400)); have n9_ := mk_ (gs_ hg (be2_ HB GE399 GE400)); have n10_ := mk_ ((by rw [hg]; exact Nat.ne_of_lt (blk_lt (g := gb399) (o := .cells #[.slice A0_0 l0_0.length c0_0, .slice A0_1 l0_1.length c0_1, .int .i64 a0_2, .slice A0_3 l0_3.length c0_3] 28 (0, 0)) (bq_ BK399)) : gb399 ≠ gb468)); have n11_ := mk_ ((by rw [hg]; exact Nat.ne_of_gt (blk_lt (g := gb399) (o := .cells #[.slice A0_0 l0_0.length c0_0, .slice A0_1 l0_1.length c0_1, .int .i64 a0_2, .slice A0_3 l0_3.length c0_3] 28 (0, 0)) (bq_ BK399)) : gb468 ≠ gb399)); have n12_ := mk_ ((by rw [hg]; exact Nat.ne_of_lt (blk_lt (g := gb400) (o := .cells #[.int .i64 a1_0, .string a1_1, .slice A1_2 l1_2.length c1_2, .int .i64 a1_3, .int .i64 a1_4, .slice (some ad447) l1_5.length c1_5] 32 (0, 0)) (bq_ BK400)) : gb400 ≠ gb468)); have n13_ := mk_ ((by rw [hg]; exact Nat.ne_of_gt (blk_lt (g := gb400) (o := .cells #[.int .i64 a1_0, .string a1_1, .slice A1_2 l1_2.length c1_2, .int .i64 a1_3, .int .i64 a1_4, .slice (some ad447) l1_5.length c1_5] 32 (0, 0)) (bq_ BK400)) : gb468 ≠ gb400)); clear HO452; clear HO457; clear HO462; clear HO467; clear BK399; clear BK400; clear HB; have HO452 := n0_; have HO457 := n1_; have HO462 := n2_; have HO467 := n3_; have BK399 := n4_; have BK400 := n5_; have HB := n6_; have BK468 := n7_; have GW468 := n8_; have GE468 := n9_; have NB399_468 := n10_; have NB468_399 := n11_; have NB400_468 := n12_; have NB468_400 := n13_; clear n0_ n1_ n2_ n3_ n4_ n5_ n6_ n7_ n8_ n9_ n10_ n11_ n12_ n13_; clear hb hbox hg; have hnb84 := NB468_399.out; have hnc84 := NB399_468.out; have hnb85 := NB468_400.out; have hnc85 := NB400_468.out; obtain ⟨_, _, _, _, _, _, _, _, _, _, _, _⟩ := hb6_ BK468; obtain ⟨Ao87, co87, eo87⟩ := Kd.R_slice HO462.out; subst eo87; obtain ⟨Ao88, co88, eo88⟩ := Kd.N_slice HO467.out; subst eo88; obtain ⟨_, _, _, _, _, _, _, _, _, _, _, _⟩ := hb6_ BK400; obtain ⟨_, _, _, _, _, _, _, _⟩ := hb4_ BK399) | ((with_reducible refine gate_callee (f := 20) rfl ?_); refine gl_ (some 72) Tryd.func20 #[.agg #[.slice A0_0 l0_0.length c0_0, .slice A0_1 l0_1.length c0_1, .int .i64 a0_2, .slice A0_3 l0_3.length c0_3], .agg #[.int .i64 a1_0, .string a1_1, .slice A1_2 l1_2.length c1_2, .int .i64 a1_3, .int .i64 a1_4, .slice (some ad447) l1_5.length c1_5], .int .i64 a2, .int .i64 a3] ?_; (with_reducible refine (pentaglotlaw26_at.calls kj41 _ _ l0_0 _ _ l0_1 a0_2 _ _ l0_3 a1_0 a1_1 _ _ l1_2 a1_3 a1_4 _ _ l1_5 a2 a3 t469 true _ ?side1 ?side2 ?side3 ?side4 ?side5 ?side6 ?side7 ?side8 ?side9 ?side10 A52.out (tb_on HTB.out (be3_ HB GE399 GE400 GE468))).mono ?_); (case side1 => exact Kd.C_below HR0_0.out (be3_ HB GE399 GE400 GE468)); (case side2 => exact HC0_0.out); (case side3 => exact Kd.C_below HR0_1.out (be3_ HB GE399 GE400 GE468)); (case side4 => exact HC0_1.out); (case side5 => exact Kd.C_below HR0_3.out (be3_ HB GE399 GE400 GE468)); (case side6 => exact HC0_3.out); (case side7 => exact Kd.C_below HR1_2.out (be3_ HB GE399 GE400 GE468)); (case side8 => exact HC1_2.out); (case side9 => exact Kd.C_below HR1_5.out (be3_ HB GE399 GE400 GE468)); (case side10 => exact HC1_5.out); rintro e w91 ⟨rfl, hb⟩; refine ⟨_, rfl, ?_⟩; have n0_ := mk_ (Kd.R_below (by refine sr_ ?_; exact (Kd.R_mono (Kd.R_far (p := ⟨gb468, 1, none⟩) (Kd.R_far (p := ⟨gb468, 5, none⟩) (Kd.R_far (p := ⟨gb468, 4, none⟩) (Kd.R_far (p := ⟨gb468, 3, none⟩) (Kd.R_far (p := ⟨gb468, 2, none⟩) (Kd.R_far (p := ⟨gb468, 1, none⟩) (Kd.R_far (p := ⟨gb468, 0, none⟩) (Kd.R_types HO452.out BK468.out (by decide)) (fun _ hk => hk.2) (.int .i64 t458)) (fun _ hk => hk.2) (.string t459)) (fun _ hk => hk.2) (.slice Ao87 t460.length co87)) (fun _ hk => hk.2) (.int .i64 t463)) (fun _ hk => hk.2) (.int .i64 t464)) (fun _ hk => hk.2) (.slice Ao88 t465.length co88)) (fun _ hk => hk.2) (.string a1_1)) (fun _ h_ => h_.1))) hb); have n1_ := mk_ (Kd.N_below (by refine sn_ ?_; exact (Kd.N_mono (Kd.N_far (p := ⟨gb468, 1, none⟩) (Kd.N_far (p := ⟨gb468, 5, none⟩) (Kd.N_far (p := ⟨gb468, 4, none⟩) (Kd.N_far (p := ⟨gb468, 3, none⟩) (Kd.N_far (p := ⟨gb468, 2, none⟩) (Kd.N_far (p := ⟨gb468, 1, none⟩) (Kd.N_far (p := ⟨gb468, 0, none⟩) (Kd.N_mono HO457.out (fun k_ hk => (⟨hk, hk.2⟩ : _ ∧ k_ ≠ gb468))) (fun _ hk => hk.2) (.int .i64 t458)) (fun _ hk => hk.2) (.string t459)) (fun _ hk => hk.2) (.slice Ao87 t460.length co87)) (fun _ hk => hk.2) (.int .i64 t463)) (fun _ hk => hk.2) (.int .i64 t464)) (fun _ hk => hk.2) (.slice Ao88 t465.length co88)) (fun _ hk => hk.2) (.string a1_1)) (fun _ h_ => h_.1))) hb); have n2_ := mk_ (Kd.R_below (by refine sr_ ?_; exact (Kd.R_mono (Kd.R_far (p := ⟨gb468, 1, none⟩) (Kd.R_far (p := ⟨gb468, 5, none⟩) (Kd.R_far (p := ⟨gb468, 4, none⟩) (Kd.R_far (p := ⟨gb468, 3, none⟩) (Kd.R_far (p := ⟨gb468, 2, none⟩) (Kd.R_far (p := ⟨gb468, 1, none⟩) (Kd.R_far (p := ⟨gb468, 0, none⟩) (Kd.R_types HO462.out BK468.out (by decide)) (fun _ hk => hk.2) (.int .i64 t458)) (fun _ hk => hk.2) (.string t459)) (fun _ hk => hk.2) (.slice Ao87 t460.length co87)) (fun _ hk => hk.2) (.int .i64 t463)) (fun _ hk => hk.2) (.int .i64 t464)) (fun _ hk => hk.2) (.slice Ao88 t465.length co88)) (fun _ hk => hk.2) (.string a1_1)) (fun _ h_ => h_.1))) hb); have n3_ := mk_ (Kd.N_below (by refine sn_ ?_; exact (Kd.N_mono (Kd.N_far (p := ⟨gb468, 1, none⟩) (Kd.N_far (p := ⟨gb468, 5, none⟩) (Kd.N_far (p := ⟨gb468, 4, none⟩) (Kd.N_far (p := ⟨gb468, 3, none⟩) (Kd.N_far (p := ⟨gb468, 2, none⟩) (Kd.N_far (p := ⟨gb468, 1, none⟩) (Kd.N_far (p := ⟨gb468, 0, none⟩) (Kd.N_mono HO467.out (fun k_ hk => (⟨hk, hk.2⟩ : _ ∧ k_ ≠ gb468))) (fun _ hk => hk.2) (.int .i64 t458)) (fun _ hk => hk.2) (.string t459)) (fun _ hk => hk.2) (.slice Ao87 t460.length co87)) (fun _ hk => hk.2) (.int .i64 t463)) (fun _ hk => hk.2) (.int .i64 t464)) (fun _ hk => hk.2) (.slice Ao88 t465.length co88)) (fun _ hk => hk.2) (.string a1_1)) (fun _ h_ => h_.1))) hb); have n4_ := mk_ (blk_below (g := gb399) (o := .cells #[.slice A0_0 l0_0.length c0_0, .slice A0_1 l0_1.length c0_1, .int .i64 a0_2, .slice A0_3 l0_3.length c0_3] 28 (0, 0)) (by refine sb_ ?_; refine blk_far ?_ NB399_468.out _; refine sb_ ?_; refine blk_far ?_ NB399_468.out _; refine sb_ ?_; refine blk_far ?_ NB399_468.out _; refine sb_ ?_; refine blk_far ?_ NB399_468.out _; refine sb_ ?_; refine blk_far ?_ NB399_468.out _; refine sb_ ?_; refine blk_far ?_ NB399_468.out _; refine sb_ ?_; refine blk_far ?_ NB399_468.out _; refine sb_ ?_; exact BK399.out) hb); have n5_ := mk_ (blk_below (g := gb400) (o := .cells #[.int .i64 a1_0, .string a1_1, .slice A1_2 l1_2.length c1_2, .int .i64 a1_3, .int .i64 a1_4, .slice (some ad447) l1_5.length c1_5] 32 (0, 0)) (by refine sb_ ?_; refine blk_far ?_ NB400_468.out _; refine sb_ ?_; refine blk_far ?_ NB400_468.out _; refine sb_ ?_; refine blk_far ?_ NB400_468.out _; refine sb_ ?_; refine blk_far ?_ NB400_468.out _; refine sb_ ?_; refine blk_far ?_ NB400_468.out _; refine sb_ ?_; refine blk_far ?_ NB400_468.out _; refine sb_ ?_; refine blk_far ?_ NB400_468.out _; refine sb_ ?_; exact BK400.out) hb); have n6_ := mk_ (blk_below (g := gb468) (o := .cells #[.int .i64 t458, .string a1_1, .slice Ao87 t460.length co87, .int .i64 t463, .int .i64 t464, .slice Ao88 t465.length co88] 32 (0, 0)) (by refine sb_ ?_; refine blk_put (cs := #[.int .i64 t458, .string t459, .slice Ao87 t460.length co87, .int .i64 t463, .int .i64 t464, .slice Ao88 t465.length co88]) ?_ 1 _ rfl; refine sb_ ?_; refine blk_put (cs := #[.int .i64 t458, .string t459, .slice Ao87 t460.length co87, .int .i64 t463, .int .i64 t464, .slice none 0 0]) ?_ 5 _ rfl; refine sb_ ?_; refine blk_put (cs := #[.int .i64 t458, .string t459, .slice Ao87 t460.length co87, .int .i64 t463, .int .i64 0, .slice none 0 0]) ?_ 4 _ rfl; refine sb_ ?_; refine blk_put (cs := #[.int .i64 t458, .string t459, .slice Ao87 t460.length co87, .int .i64 0, .int .i64 0, .slice none 0 0]) ?_ 3 _ rfl; refine sb_ ?_; refine blk_put (cs := #[.int .i64 t458, .string t459, .slice none 0 0, .int .i64 0, .int .i64 0, .slice none 0 0]) ?_ 2 _ rfl; refine sb_ ?_; refine blk_put (cs := #[.int .i64 t458, .string (⟨#[]⟩ : ByteArray), .slice none 0 0, .int .i64 0, .int .i64 0, .slice none 0 0]) ?_ 1 _ rfl; refine sb_ ?_; refine blk_put (cs := #[.int .i64 0, .string (⟨#[]⟩ : ByteArray), .slice none 0 0, .int .i64 0, .int .i64 0, .slice none 0 0]) ?_ 0 _ rfl; refine sb_ ?_; exact BK468.out) hb); have n7_ := mk_ (below_step (be3_ HB GE399 GE400 GE468) hb); clear HO452; clear HO457; clear HO462; clear HO467; clear BK399; clear BK400; clear BK468; clear HB; have HO452 := n0_; have HO457 := n1_; have HO462 := n2_; have HO467 := n3_; have BK399 := n4_; have BK400 := n5_; have BK468 := n6_; have HB := n7_; clear n0_ n1_ n2_ n3_ n4_ n5_ n6_ n7_; (try clear hb); (try clear hb2); (try clear hk); (try clear hi)))
            have n0_ := mk_ (Kd.R_drew HO452.out)
            have n1_ := mk_ (Kd.N_drew HO457.out)
            have n2_ := mk_ (Kd.R_drew HO462.out)
            have n3_ := mk_ (Kd.N_drew HO467.out)
            have n4_ := mk_ (blk_drew BK399.out)
            have n5_ := mk_ (blk_drew BK400.out)
            have n6_ := mk_ (blk_drew BK468.out)
            have n7_ := mk_ (below_drew1 HB.out)
            clear HO452
            clear HO457
            clear HO462
            clear HO467
            clear BK399
            clear BK400
            clear BK468
            clear HB
            have HO452 := n0_
            have HO457 := n1_
            have HO462 := n2_
            have HO467 := n3_
            have BK399 := n4_
            have BK400 := n5_
            have BK468 := n6_
            have HB := n7_
            clear n0_ n1_ n2_ n3_ n4_ n5_ n6_ n7_
            refine start_ (n := 11) (S := fun w' => w'.cell? ⟨gb399, 0, none⟩ = some (.slice A0_0 l0_0.length c0_0) ∧ w'.cell? ⟨gb399, 1, none⟩ = some (.slice A0_1 l0_1.length c0_1) ∧ w'.cell? ⟨gb399, 2, none⟩ = some (.int .i64 a0_2) ∧ w'.cell? ⟨gb399, 3, none⟩ = some (.slice A0_3 l0_3.length c0_3) ∧ w'.cell? ⟨gb468, 0, none⟩ = some (.int .i64 t458) ∧ w'.cell? ⟨gb468, 1, none⟩ = some (.string a1_1) ∧ w'.cell? ⟨gb468, 2, none⟩ = some (.slice Ao87 t460.length co87) ∧ w'.cell? ⟨gb468, 3, none⟩ = some (.int .i64 t463) ∧ w'.cell? ⟨gb468, 4, none⟩ = some (.int .i64 t464) ∧ w'.cell? ⟨gb468, 5, none⟩ = some (.slice Ao88 t465.length co88)) (ds := []) #[false, false, false, false, false, false, false, false, false, false, false] (by kernel_rfl) rfl rfl ⟨(blk_cell BK399.out 0).trans rfl, (blk_cell BK399.out 1).trans rfl, (blk_cell BK399.out 2).trans rfl, (blk_cell BK399.out 3).trans rfl, (blk_cell BK468.out 0).trans rfl, (blk_cell BK468.out 1).trans rfl, (blk_cell BK468.out 2).trans rfl, (blk_cell BK468.out 3).trans rfl, (blk_cell BK468.out 4).trans rfl, (blk_cell BK468.out 5).trans rfl⟩ (fun hHeld => ?_); refine with_tabW pentaglotlaw26_EvaluateDuals.tab14 pentaglotlaw26_EvaluateDuals.bits14 (fun HT_ HW_ => ?_)
            generalize w91.drew = w92 at HO452 HO457 HO462 HO467 BK399 BK400 BK468 HB hHeld ⊢
            refine pu_ 3 (some 79) ?_
            refine pu_ 4 (some 80) ?_
            refine tk_ 0 (some 76) hHeld ?_
            refine tk_ 1 (some 77) hHeld ?_
            refine on_ 2 (some 78) (fun K hK => ?_)
            refine goes_ Tryd.func26 (by kernel_rfl) rfl #[.int .i64 4, .agg #[.int .i64 t458, .string a1_1, .slice Ao87 t460.length co87, .int .i64 t463, .int .i64 t464, .slice Ao88 t465.length co88]] (by rfl) rfl rfl (by (try simp only [List.map_toArray, List.map_cons, List.map_nil]); first | done | rfl | (simp only [List.length_drop, List.length_take]; rfl)) ?_
            with_reducible refine (pentaglotlaw26_kid.calls 4 t458 a1_1 (fun k_ => some k_ = (.slice Ao87 t460.length co87 : Value).ownBlock) _ _ t460 t463 t464 (fun k_ => ((some k_ ≠ (.slice Ao87 t460.length co87 : Value).ownBlock ∧ (k_ ≠ gb399 ∧ k_ ≠ gb400)) ∧ k_ ≠ gb468)) _ _ t465 t471 t472 t473 t476 t477 t478 _ ?side1 ?side2 A53.out).mono ?_
            (case side1 => exact Kd.R_V (Kd.R_tight rfl (Kd.R_types (Kd.R_types (Kd.R_types (Kd.R_apart' (Kd.R_apart' (HO462.out) (Kd.N_typed HO457.out) (by decide)) (Kd.N_typed HO467.out) (by decide)) BK399.out (by decide)) BK400.out (by decide)) BK468.out (by decide))))
            (case side2 => exact Kd.N_V (HO467.out))
            rintro e w93 ⟨v474, v479, rfl, ho0, ho1, hb⟩
            refine ⟨_, rfl, ?_⟩
            have n0_ := mk_ (Kd.R_elder' (rq_ HO452) (Kd.R_base ho0) hb)
            have n1_ := mk_ (Kd.N_mono (Kd.N_told (Kd.N_told (Kd.N_old (nq_ HO457) hb) (Kd.R_base ho0)) (Kd.N_base ho1)) (fun _ h_ => h_.1))
            have n2_ := mk_ (Kd.R_elder' (rq_ HO462) (Kd.R_base ho0) hb)
            have n3_ := mk_ (Kd.N_mono (Kd.N_told (Kd.N_told (Kd.N_old (nq_ HO467) hb) (Kd.R_base ho0)) (Kd.N_base ho1)) (fun _ h_ => h_.1))
            have n4_ := mk_ (Kd.R_lower (Kd.R_new' (Kd.R_new' (Kd.R_mono (ok' := fun k_ => True) ho0 (fun _ hk_ => trivial)) (Kd.R_lt (rq_ HO452))) (Kd.R_lt (rq_ HO462))) (below_size (be3_ HB GE399 GE400 GE468)))
            have n5_ := mk_ (Kd.N_lower (Kd.N_mono (ok' := fun k_ => some k_ ≠ (v474 : Value).ownBlock ∧ k_ ≠ gb399 ∧ k_ ≠ gb400 ∧ k_ ≠ gb468) ho1 (fun k_ hk_ => ⟨hk_.2, Or.elim hk_.1 (fun hs_ => Or.elim hs_ (fun hs_ => ((Kd.R_types (Kd.R_types (Kd.R_types (Kd.R_apart' (Kd.R_apart' (HO462.out) (Kd.N_typed HO457.out) (by decide)) (Kd.N_typed HO467.out) (by decide)) BK399.out (by decide)) BK400.out (by decide)) BK468.out (by decide)).1 k_ hs_.symm).1.1.2) (fun hs_ => hs_.1.2.1)) (fun hn_ => (Kd.freshB (g := gb399) (o := .cells #[.slice A0_0 l0_0.length c0_0, .slice A0_1 l0_1.length c0_1, .int .i64 a0_2, .slice A0_3 l0_3.length c0_3] 28 (0, 0)) (bq_ BK399) k_ hn_)), Or.elim hk_.1 (fun hs_ => Or.elim hs_ (fun hs_ => ((Kd.R_types (Kd.R_types (Kd.R_types (Kd.R_apart' (Kd.R_apart' (HO462.out) (Kd.N_typed HO457.out) (by decide)) (Kd.N_typed HO467.out) (by decide)) BK399.out (by decide)) BK400.out (by decide)) BK468.out (by decide)).1 k_ hs_.symm).1.2) (fun hs_ => hs_.1.2.2)) (fun hn_ => (Kd.freshB (g := gb400) (o := .cells #[.int .i64 a1_0, .string a1_1, .slice A1_2 l1_2.length c1_2, .int .i64 a1_3, .int .i64 a1_4, .slice (some ad447) l1_5.length c1_5] 32 (0, 0)) (bq_ BK400) k_ hn_)), Or.elim hk_.1 (fun hs_ => Or.elim hs_ (fun hs_ => ((Kd.R_types (Kd.R_types (Kd.R_types (Kd.R_apart' (Kd.R_apart' (HO462.out) (Kd.N_typed HO457.out) (by decide)) (Kd.N_typed HO467.out) (by decide)) BK399.out (by decide)) BK400.out (by decide)) BK468.out (by decide)).1 k_ hs_.symm).2) (fun hs_ => hs_.2)) (fun hn_ => (Kd.freshB (g := gb468) (o := .cells #[.int .i64 t458, .string a1_1, .slice Ao87 t460.length co87, .int .i64 t463, .int .i64 t464, .slice Ao88 t465.length co88] 32 (0, 0)) (bq_ BK468) k_ hn_))⟩)) (below_size (be3_ HB GE399 GE400 GE468)))
            have n6_ := mk_ (bb_ BK399 hb)
            have n7_ := mk_ (bb_ BK400 hb)
            have n8_ := mk_ (bb_ BK468 hb)
            have n9_ := mk_ (below_step (be3_ HB GE399 GE400 GE468) hb)
            clear HO452
            clear HO457
            clear HO462
            clear HO467
            clear BK399
            clear BK400
            clear BK468
            clear HB
            have HO452 := n0_
            have HO457 := n1_
            have HO462 := n2_
            have HO467 := n3_
            have HO475 := n4_
            have HO480 := n5_
            have BK399 := n6_
            have BK400 := n7_
            have BK468 := n8_
            have HB := n9_
            clear n0_ n1_ n2_ n3_ n4_ n5_ n6_ n7_ n8_ n9_
            (try clear hb)
            (try clear hb2)
            (try clear hk)
            (try clear hi)
            (try clear ho0)
            (try clear ho1)
            obtain ⟨Ao94, co94, eo94⟩ := Kd.R_slice HO475.out
            (first | subst eo94 | (injection eo94 with f1_ f2_ f3_; have f4_ := f1_.symm; have f5_ := f3_.symm; clear f1_ f2_ f3_; subst f4_; subst f5_))
            obtain ⟨Ao95, co95, eo95⟩ := Kd.N_slice HO480.out
            (first | subst eo95 | (injection eo95 with f1_ f2_ f3_; have f4_ := f1_.symm; have f5_ := f3_.symm; clear f1_ f2_ f3_; subst f4_; subst f5_))
            refine hK.out _ _ ⟨(blk_cell BK399.out 0).trans rfl, (blk_cell BK399.out 1).trans rfl, (blk_cell BK399.out 2).trans rfl, (blk_cell BK399.out 3).trans rfl, (blk_cell BK468.out 0).trans rfl, (blk_cell BK468.out 1).trans rfl, (blk_cell BK468.out 2).trans rfl, (blk_cell BK468.out 3).trans rfl, (blk_cell BK468.out 4).trans rfl, (blk_cell BK468.out 5).trans rfl⟩ (fun hHeld => ?_)
            clear hK K
            refine no_ (N := some 78) ?_
            refine on_ 5 (some 81) (fun K hK => ?_)
            refine goes_ Tryd.func20 (by kernel_rfl) rfl #[.agg #[.slice A0_0 l0_0.length c0_0, .slice A0_1 l0_1.length c0_1, .int .i64 a0_2, .slice A0_3 l0_3.length c0_3], .agg #[.int .i64 t471, .string t472, .slice Ao94 t473.length co94, .int .i64 t476, .int .i64 t477, .slice Ao95 t478.length co95], .int .i64 a2, .int .i64 a3] (by rfl) rfl rfl (by (try simp only [List.map_toArray, List.map_cons, List.map_nil]); first | done | rfl | (simp only [List.length_drop, List.length_take]; rfl)) ?_
            with_reducible refine (pentaglotlaw26_at.calls kj41 _ _ l0_0 _ _ l0_1 a0_2 _ _ l0_3 t471 t472 _ _ t473 t476 t477 _ _ t478 a2 a3 t481 false _ ?side1 ?side2 ?side3 ?side4 ?side5 ?side6 ?side7 ?side8 ?side9 ?side10 A54.out (tb_on HTB.out (be3_ HB GE399 GE400 GE468))).mono ?_
            (case side1 => exact cs_ (Kd.C_below HR0_0.out HB.out))
            (case side2 => exact HC0_0.out)
            (case side3 => exact cs_ (Kd.C_below HR0_1.out HB.out))
            (case side4 => exact HC0_1.out)
            (case side5 => exact cs_ (Kd.C_below HR0_3.out HB.out))
            (case side6 => exact HC0_3.out)
            (case side7 => repeat (first | exact (Kd.R_reads' HO475.out).2.2 | (with_reducible refine Kd.C_alloc ?_ _) | (with_reducible refine Kd.C_drewN ?_ _) | (with_reducible refine Kd.C_drew ?_)))
            (case side8 => exact (Kd.R_reads' HO475.out).2.1)
            (case side9 => repeat (first | exact (Kd.N_reads' HO480.out).2.2 | (with_reducible refine Kd.C_alloc ?_ _) | (with_reducible refine Kd.C_drewN ?_ _) | (with_reducible refine Kd.C_drew ?_)))
            (case side10 => exact (Kd.N_reads' HO480.out).2.1)
            rintro e w96 ⟨rfl, hb⟩
            refine ⟨_, rfl, ?_⟩
            have n0_ := mk_ (Kd.R_below (rq_ HO452) hb)
            have n1_ := mk_ (Kd.N_below (nq_ HO457) hb)
            have n2_ := mk_ (Kd.R_below (rq_ HO462) hb)
            have n3_ := mk_ (Kd.N_below (nq_ HO467) hb)
            have n4_ := mk_ (Kd.R_below (rq_ HO475) hb)
            have n5_ := mk_ (Kd.N_below (nq_ HO480) hb)
            have n6_ := mk_ (bb_ BK399 hb)
            have n7_ := mk_ (bb_ BK400 hb)
            have n8_ := mk_ (bb_ BK468 hb)
            have n9_ := mk_ (below_step (be3_ HB GE399 GE400 GE468) hb)
            clear HO452
            clear HO457
            clear HO462
            clear HO467
            clear HO475
            clear HO480
            clear BK399
            clear BK400
            clear BK468
            clear HB
            have HO452 := n0_
            have HO457 := n1_
            have HO462 := n2_
            have HO467 := n3_
            have HO475 := n4_
            have HO480 := n5_
            have BK399 := n6_
            have BK400 := n7_
            have BK468 := n8_
            have HB := n9_
            clear n0_ n1_ n2_ n3_ n4_ n5_ n6_ n7_ n8_ n9_
            (try clear hb)
            (try clear hb2)
            (try clear hk)
            (try clear hi)
            refine hK.out _ _ ⟨(blk_cell BK399.out 0).trans rfl, (blk_cell BK399.out 1).trans rfl, (blk_cell BK399.out 2).trans rfl, (blk_cell BK399.out 3).trans rfl, (blk_cell BK468.out 0).trans rfl, (blk_cell BK468.out 1).trans rfl, (blk_cell BK468.out 2).trans rfl, (blk_cell BK468.out 3).trans rfl, (blk_cell BK468.out 4).trans rfl, (blk_cell BK468.out 5).trans rfl⟩ (fun hHeld => ?_)
            clear hK K
            refine no_ (N := some 81) ?_
            refine pu_ 6 (some 75) ?_
            refine pu_ 7 (some 82) ?_
            refine pu_ 8 (some 83) ?_
            refine pu_ 9 (some 11) ?_
            refine pu_ 10 (some 12) ?_
            refine done_ (done_of HT_.out (by kernel_rfl)) ?_
            try go_wp2
            go_ret
            exact ⟨er_, be3_ HB GE399 GE400 GE468⟩
          ·replace c55 := Bool.eq_false_iff.mpr c55
           subst c55
           rw [if_neg nf_] at H
           obtain rfl := Option.some.inj H
           have hnb97 := NB400_399.out
           have hnc97 := NB399_400.out
           obtain ⟨_, _, _, _, _, _, _, _, _, _, _, _⟩ := hb6_ BK400
           have p447 : 0 ≤ (0 : Int) := (by omega)
           have q447 : 0 < (l1_5.length : Int) := of_decide_eq_true (by first | (with_reducible assumption) | assumption)
           obtain ⟨ad447, A447_2, c447_2, A447_5, c447_5, e447, hx447_0, hx447_1, hx447_2, hx447_3, hx447_4, hx447_5, hl447_2, hi447_2, hl447_5, hi447_5⟩ := at_T32 HR1_5.out 0 p447 q447
           cases e447
           have qi447 : (0 < l1_5.length) = True := eq_true (by omega)
           (try rw [show ((0 : Int)).toNat = 0 from rfl] at hx447_0)
           (try rw [show 0 * 6 = 0 from rfl] at hx447_0)
           (try rw [Addr.add_zero'] at hx447_0)
           (try rw [show ((0 : Int)).toNat = 0 from rfl] at hx447_1)
           (try rw [show 0 * 6 = 0 from rfl] at hx447_1)
           (try rw [Addr.add_zero'] at hx447_1)
           (try rw [show ((0 : Int)).toNat = 0 from rfl] at hx447_2)
           (try rw [show 0 * 6 = 0 from rfl] at hx447_2)
           (try rw [Addr.add_zero'] at hx447_2)
           (try rw [show ((0 : Int)).toNat = 0 from rfl] at hx447_3)
           (try rw [show 0 * 6 = 0 from rfl] at hx447_3)
           (try rw [Addr.add_zero'] at hx447_3)
           (try rw [show ((0 : Int)).toNat = 0 from rfl] at hx447_4)
           (try rw [show 0 * 6 = 0 from rfl] at hx447_4)
           (try rw [Addr.add_zero'] at hx447_4)
           (try rw [show ((0 : Int)).toNat = 0 from rfl] at hx447_5)
           (try rw [show 0 * 6 = 0 from rfl] at hx447_5)
           (try rw [Addr.add_zero'] at hx447_5)
           replace hx447_0 := cb_ HB hx447_0
           replace hx447_1 := cb_ HB hx447_1
           replace hx447_2 := cb_ HB hx447_2
           replace hx447_3 := cb_ HB hx447_3
           replace hx447_4 := cb_ HB hx447_4
           replace hx447_5 := cb_ HB hx447_5
           have HR447_2 := mk_ hi447_2
           have HC447_2 := mk_ hl447_2
           clear hi447_2 hl447_2
           have HR447_5 := mk_ hi447_5
           have HC447_5 := mk_ hl447_5
           clear hi447_5 hl447_5
           replace p447 := eq_true p447
           replace q447 := eq_true q447
           try go_wp2_with (first | ((with_reducible refine gate_callee (f := 26) rfl ?_); refine gl_ (some 62) Tryd.func26 #[.int .i64 4, .agg #[.int .i64 ((rd_T32 l1_5 0).f0), .string ((rd_T32 l1_5 0).f1), .slice A447_2 ((rd_T32 l1_5 0).f2).length c447_2, .int .i64 ((rd_T32 l1_5 0).f3), .int .i64 ((rd_T32 l1_5 0).f4), .slice A447_5 ((rd_T32 l1_5 0).f5).length c447_5]] ?_; (with_reducible refine (pentaglotlaw26_kid.calls 4 ((rd_T32 l1_5 0).f0) ((rd_T32 l1_5 0).f1) (fun k_ => k_ < w.heap.size) _ _ ((rd_T32 l1_5 0).f2) ((rd_T32 l1_5 0).f3) ((rd_T32 l1_5 0).f4) (fun k_ => k_ < w.heap.size) _ _ ((rd_T32 l1_5 0).f5) t448 t449 t450 t453 t454 t455 _ ?side1 ?side2 A50.out).mono ?_); (case side1 => exact Kd.V_mk HC447_2.out (Kd.F_below (Kd.C_F k92_heap HR447_2.out) (be2_ HB GE399 GE400))); (case side2 => exact Kd.V_mk HC447_5.out (Kd.F_below (Kd.C_F k32_heap HR447_5.out) (be2_ HB GE399 GE400))); rintro e w99 ⟨v451, v456, rfl, ho0, ho1, hb⟩; refine ⟨_, rfl, ?_⟩; have n0_ := mk_ (Kd.R_lower (Kd.R_mono (ok' := fun k_ => True) ho0 (fun _ hk_ => trivial)) (below_size (be2_ HB GE399 GE400))); have n1_ := mk_ (Kd.N_lower (Kd.N_mono (ok' := fun k_ => some k_ ≠ (v451 : Value).ownBlock ∧ k_ ≠ gb399 ∧ k_ ≠ gb400) ho1 (fun k_ hk_ => ⟨hk_.2, Or.elim hk_.1 (fun hs_ => Or.elim hs_ (fun hs_ => fun e_ => Nat.not_le.2 hs_ (by rw [e_]; exact GW399.out)) (fun hs_ => fun e_ => Nat.not_le.2 hs_ (by rw [e_]; exact GW399.out))) (fun hn_ => (Kd.freshB (g := gb399) (o := .cells #[.slice A0_0 l0_0.length c0_0, .slice A0_1 l0_1.length c0_1, .int .i64 a0_2, .slice A0_3 l0_3.length c0_3] 28 (0, 0)) (bq_ BK399) k_ hn_)), Or.elim hk_.1 (fun hs_ => Or.elim hs_ (fun hs_ => fun e_ => Nat.not_le.2 hs_ (by rw [e_]; exact GW400.out)) (fun hs_ => fun e_ => Nat.not_le.2 hs_ (by rw [e_]; exact GW400.out))) (fun hn_ => (Kd.freshB (g := gb400) (o := .cells #[.int .i64 a1_0, .string a1_1, .slice A1_2 l1_2.length c1_2, .int .i64 a1_3, .int .i64 a1_4, .slice (some ad447) l1_5.length c1_5] 32 (0, 0)) (bq_ BK400) k_ hn_))⟩)) (below_size (be2_ HB GE399 GE400))); have n2_ := mk_ (bb_ BK399 hb); have n3_ := mk_ (bb_ BK400 hb); have n4_ := mk_ (below_step (be2_ HB GE399 GE400) hb); clear BK399; clear BK400; clear HB; have HO452 := n0_; have HO457 := n1_; have BK399 := n2_; have BK400 := n3_; have HB := n4_; clear n0_ n1_ n2_ n3_ n4_; (try clear hb); (try clear hb2); (try clear hk); (try clear hi); (try clear ho0); (try clear ho1); obtain ⟨Ao100, co100, eo100⟩ := Kd.R_slice HO452.out; subst eo100; obtain ⟨Ao101, co101, eo101⟩ := Kd.N_slice HO457.out; subst eo101) | ((with_reducible refine gate_callee (f := 26) rfl ?_); refine gl_ (some 63) Tryd.func26 #[.int .i64 9, .agg #[.int .i64 t448, .string t449, .slice Ao100 t450.length co100, .int .i64 t453, .int .i64 t454, .slice Ao101 t455.length co101]] ?_; (with_reducible refine (pentaglotlaw26_kid.calls 9 t448 t449 (fun k_ => some k_ = (.slice Ao100 t450.length co100 : Value).ownBlock) _ _ t450 t453 t454 (fun k_ => (some k_ ≠ (.slice Ao100 t450.length co100 : Value).ownBlock ∧ (k_ ≠ gb399 ∧ k_ ≠ gb400))) _ _ t455 t458 t459 t460 t463 t464 t465 _ ?side1 ?side2 A51.out).mono ?_); (case side1 => exact Kd.R_V (Kd.R_tight rfl (Kd.R_types (Kd.R_types (Kd.R_apart' (HO452.out) (Kd.N_typed HO457.out) (by decide)) BK399.out (by decide)) BK400.out (by decide)))); (case side2 => exact Kd.N_V (HO457.out)); rintro e w102 ⟨v461, v466, rfl, ho0, ho1, hb⟩; refine ⟨_, rfl, ?_⟩; have HO462 := mk_ (Kd.R_lower (Kd.R_new' (Kd.R_mono (ok' := fun k_ => True) ho0 (fun _ hk_ => trivial)) (Kd.R_lt (rq_ HO452))) (below_size (be2_ HB GE399 GE400))); have HO467 := mk_ (Kd.N_lower (Kd.N_mono (ok' := fun k_ => some k_ ≠ (v461 : Value).ownBlock ∧ k_ ≠ gb399 ∧ k_ ≠ gb400) ho1 (fun k_ hk_ => ⟨hk_.2, Or.elim hk_.1 (fun hs_ => Or.elim hs_ (fun hs_ => ((Kd.R_types (Kd.R_types (Kd.R_apart' (HO452.out) (Kd.N_typed HO457.out) (by decide)) BK399.out (by decide)) BK400.out (by decide)).1 k_ hs_.symm).1.2) (fun hs_ => hs_.2.1)) (fun hn_ => (Kd.freshB (g := gb399) (o := .cells #[.slice A0_0 l0_0.length c0_0, .slice A0_1 l0_1.length c0_1, .int .i64 a0_2, .slice A0_3 l0_3.length c0_3] 28 (0, 0)) (bq_ BK399) k_ hn_)), Or.elim hk_.1 (fun hs_ => Or.elim hs_ (fun hs_ => ((Kd.R_types (Kd.R_types (Kd.R_apart' (HO452.out) (Kd.N_typed HO457.out) (by decide)) BK399.out (by decide)) BK400.out (by decide)).1 k_ hs_.symm).2) (fun hs_ => hs_.2.2)) (fun hn_ => (Kd.freshB (g := gb400) (o := .cells #[.int .i64 a1_0, .string a1_1, .slice A1_2 l1_2.length c1_2, .int .i64 a1_3, .int .i64 a1_4, .slice (some ad447) l1_5.length c1_5] 32 (0, 0)) (bq_ BK400) k_ hn_))⟩)) (below_size (be2_ HB GE399 GE400))); replace HO452 := mk_ (Kd.R_elder' (rq_ HO452) (Kd.R_base ho0) hb); replace HO457 := mk_ (Kd.N_mono (Kd.N_told (Kd.N_told (Kd.N_old (nq_ HO457) hb) (Kd.R_base ho0)) (Kd.N_base ho1)) (fun _ h_ => h_.1)); replace BK399 := mk_ (bb_ BK399 hb); replace BK400 := mk_ (bb_ BK400 hb); replace HB := mk_ (below_step (be2_ HB GE399 GE400) hb); (try clear hb); (try clear hb2); (try clear hk); (try clear hi); (try clear ho0); (try clear ho1)) | ((with_reducible refine gate_dst (N := 13) rfl ?_); (try (refine gate_guard (by rfl) ?_; dsimp only)); refine bx_ 13 #[.int .i64 0, .string (⟨#[]⟩ : ByteArray), .slice none 0 0, .int .i64 0, .int .i64 0, .slice none 0 0] 32 ?_; intro gb468 hg w103 hbox hb; have n0_ := mk_ (Kd.R_below (rq_ HO452) hb); have n1_ := mk_ (Kd.N_below (Kd.N_elderB (nq_ HO457) gb468 (Nat.le_of_eq hg.symm)) hb); have n2_ := mk_ (Kd.R_below (rq_ HO462) hb); have n3_ := mk_ (Kd.N_below (Kd.N_elderB (nq_ HO467) gb468 (Nat.le_of_eq hg.symm)) hb); have n4_ := mk_ (bb_ BK399 hb); have n5_ := mk_ (bb_ BK400 hb); have n6_ := mk_ (below_step (be2_ HB GE399 GE400) hb); have n7_ := mk_ (hbox); have n8_ := mk_ (gs_ hg (be2_ HB GE399 GE400)); have n9_ := mk_ (gs_ hg (be2_ HB GE399 GE400)); have n10_ := mk_ ((by rw [hg]; exact Nat.ne_of_lt (blk_lt (g := gb399) (o := .cells #[.slice A0_0 l0_0.length c0_0, .slice A0_1 l0_1.length c0_1, .int .i64 a0_2, .slice A0_3 l0_3.length c0_3] 28 (0, 0)) (bq_ BK399)) : gb399 ≠ gb468)); have n11_ := mk_ ((by rw [hg]; exact Nat.ne_of_gt (blk_lt (g := gb399) (o := .cells #[.slice A0_0 l0_0.length c0_0, .slice A0_1 l0_1.length c0_1, .int .i64 a0_2, .slice A0_3 l0_3.length c0_3] 28 (0, 0)) (bq_ BK399)) : gb468 ≠ gb399)); have n12_ := mk_ ((by rw [hg]; exact Nat.ne_of_lt (blk_lt (g := gb400) (o := .cells #[.int .i64 a1_0, .string a1_1, .slice A1_2 l1_2.length c1_2, .int .i64 a1_3, .int .i64 a1_4, .slice (some ad447) l1_5.length c1_5] 32 (0, 0)) (bq_ BK400)) : gb400 ≠ gb468)); have n13_ := mk_ ((by rw [hg]; exact Nat.ne_of_gt (blk_lt (g := gb400) (o := .cells #[.int .i64 a1_0, .string a1_1, .slice A1_2 l1_2.length c1_2, .int .i64 a1_3, .int .i64 a1_4, .slice (some ad447) l1_5.length c1_5] 32 (0, 0)) (bq_ BK400)) : gb468 ≠ gb400)); clear HO452; clear HO457; clear HO462; clear HO467; clear BK399; clear BK400; clear HB; have HO452 := n0_; have HO457 := n1_; have HO462 := n2_; have HO467 := n3_; have BK399 := n4_; have BK400 := n5_; have HB := n6_; have BK468 := n7_; have GW468 := n8_; have GE468 := n9_; have NB399_468 := n10_; have NB468_399 := n11_; have NB400_468 := n12_; have NB468_400 := n13_; clear n0_ n1_ n2_ n3_ n4_ n5_ n6_ n7_ n8_ n9_ n10_ n11_ n12_ n13_; clear hb hbox hg; have hnb104 := NB468_399.out; have hnc104 := NB399_468.out; have hnb105 := NB468_400.out; have hnc105 := NB400_468.out; obtain ⟨_, _, _, _, _, _, _, _, _, _, _, _⟩ := hb6_ BK468; obtain ⟨Ao107, co107, eo107⟩ := Kd.R_slice HO462.out; subst eo107; obtain ⟨Ao108, co108, eo108⟩ := Kd.N_slice HO467.out; subst eo108; obtain ⟨_, _, _, _, _, _, _, _, _, _, _, _⟩ := hb6_ BK400; obtain ⟨_, _, _, _, _, _, _, _⟩ := hb4_ BK399) | ((with_reducible refine gate_callee (f := 20) rfl ?_); refine gl_ (some 72) Tryd.func20 #[.agg #[.slice A0_0 l0_0.length c0_0, .slice A0_1 l0_1.length c0_1, .int .i64 a0_2, .slice A0_3 l0_3.length c0_3], .agg #[.int .i64 a1_0, .string a1_1, .slice A1_2 l1_2.length c1_2, .int .i64 a1_3, .int .i64 a1_4, .slice (some ad447) l1_5.length c1_5], .int .i64 a2, .int .i64 a3] ?_; (with_reducible refine (pentaglotlaw26_at.calls kj41 _ _ l0_0 _ _ l0_1 a0_2 _ _ l0_3 a1_0 a1_1 _ _ l1_2 a1_3 a1_4 _ _ l1_5 a2 a3 t469 false _ ?side1 ?side2 ?side3 ?side4 ?side5 ?side6 ?side7 ?side8 ?side9 ?side10 A52.out (tb_on HTB.out (be3_ HB GE399 GE400 GE468))).mono ?_); (case side1 => exact Kd.C_below HR0_0.out (be3_ HB GE399 GE400 GE468)); (case side2 => exact HC0_0.out); (case side3 => exact Kd.C_below HR0_1.out (be3_ HB GE399 GE400 GE468)); (case side4 => exact HC0_1.out); (case side5 => exact Kd.C_below HR0_3.out (be3_ HB GE399 GE400 GE468)); (case side6 => exact HC0_3.out); (case side7 => exact Kd.C_below HR1_2.out (be3_ HB GE399 GE400 GE468)); (case side8 => exact HC1_2.out); (case side9 => exact Kd.C_below HR1_5.out (be3_ HB GE399 GE400 GE468)); (case side10 => exact HC1_5.out); rintro e w111 ⟨rfl, hb⟩; refine ⟨_, rfl, ?_⟩; have n0_ := mk_ (Kd.R_below (by refine sr_ ?_; exact (Kd.R_mono (Kd.R_far (p := ⟨gb468, 1, none⟩) (Kd.R_far (p := ⟨gb468, 5, none⟩) (Kd.R_far (p := ⟨gb468, 4, none⟩) (Kd.R_far (p := ⟨gb468, 3, none⟩) (Kd.R_far (p := ⟨gb468, 2, none⟩) (Kd.R_far (p := ⟨gb468, 1, none⟩) (Kd.R_far (p := ⟨gb468, 0, none⟩) (Kd.R_types HO452.out BK468.out (by decide)) (fun _ hk => hk.2) (.int .i64 t458)) (fun _ hk => hk.2) (.string t459)) (fun _ hk => hk.2) (.slice Ao107 t460.length co107)) (fun _ hk => hk.2) (.int .i64 t463)) (fun _ hk => hk.2) (.int .i64 t464)) (fun _ hk => hk.2) (.slice Ao108 t465.length co108)) (fun _ hk => hk.2) (.string a1_1)) (fun _ h_ => h_.1))) hb); have n1_ := mk_ (Kd.N_below (by refine sn_ ?_; exact (Kd.N_mono (Kd.N_far (p := ⟨gb468, 1, none⟩) (Kd.N_far (p := ⟨gb468, 5, none⟩) (Kd.N_far (p := ⟨gb468, 4, none⟩) (Kd.N_far (p := ⟨gb468, 3, none⟩) (Kd.N_far (p := ⟨gb468, 2, none⟩) (Kd.N_far (p := ⟨gb468, 1, none⟩) (Kd.N_far (p := ⟨gb468, 0, none⟩) (Kd.N_mono HO457.out (fun k_ hk => (⟨hk, hk.2⟩ : _ ∧ k_ ≠ gb468))) (fun _ hk => hk.2) (.int .i64 t458)) (fun _ hk => hk.2) (.string t459)) (fun _ hk => hk.2) (.slice Ao107 t460.length co107)) (fun _ hk => hk.2) (.int .i64 t463)) (fun _ hk => hk.2) (.int .i64 t464)) (fun _ hk => hk.2) (.slice Ao108 t465.length co108)) (fun _ hk => hk.2) (.string a1_1)) (fun _ h_ => h_.1))) hb); have n2_ := mk_ (Kd.R_below (by refine sr_ ?_; exact (Kd.R_mono (Kd.R_far (p := ⟨gb468, 1, none⟩) (Kd.R_far (p := ⟨gb468, 5, none⟩) (Kd.R_far (p := ⟨gb468, 4, none⟩) (Kd.R_far (p := ⟨gb468, 3, none⟩) (Kd.R_far (p := ⟨gb468, 2, none⟩) (Kd.R_far (p := ⟨gb468, 1, none⟩) (Kd.R_far (p := ⟨gb468, 0, none⟩) (Kd.R_types HO462.out BK468.out (by decide)) (fun _ hk => hk.2) (.int .i64 t458)) (fun _ hk => hk.2) (.string t459)) (fun _ hk => hk.2) (.slice Ao107 t460.length co107)) (fun _ hk => hk.2) (.int .i64 t463)) (fun _ hk => hk.2) (.int .i64 t464)) (fun _ hk => hk.2) (.slice Ao108 t465.length co108)) (fun _ hk => hk.2) (.string a1_1)) (fun _ h_ => h_.1))) hb); have n3_ := mk_ (Kd.N_below (by refine sn_ ?_; exact (Kd.N_mono (Kd.N_far (p := ⟨gb468, 1, none⟩) (Kd.N_far (p := ⟨gb468, 5, none⟩) (Kd.N_far (p := ⟨gb468, 4, none⟩) (Kd.N_far (p := ⟨gb468, 3, none⟩) (Kd.N_far (p := ⟨gb468, 2, none⟩) (Kd.N_far (p := ⟨gb468, 1, none⟩) (Kd.N_far (p := ⟨gb468, 0, none⟩) (Kd.N_mono HO467.out (fun k_ hk => (⟨hk, hk.2⟩ : _ ∧ k_ ≠ gb468))) (fun _ hk => hk.2) (.int .i64 t458)) (fun _ hk => hk.2) (.string t459)) (fun _ hk => hk.2) (.slice Ao107 t460.length co107)) (fun _ hk => hk.2) (.int .i64 t463)) (fun _ hk => hk.2) (.int .i64 t464)) (fun _ hk => hk.2) (.slice Ao108 t465.length co108)) (fun _ hk => hk.2) (.string a1_1)) (fun _ h_ => h_.1))) hb); have n4_ := mk_ (blk_below (g := gb399) (o := .cells #[.slice A0_0 l0_0.length c0_0, .slice A0_1 l0_1.length c0_1, .int .i64 a0_2, .slice A0_3 l0_3.length c0_3] 28 (0, 0)) (by refine sb_ ?_; refine blk_far ?_ NB399_468.out _; refine sb_ ?_; refine blk_far ?_ NB399_468.out _; refine sb_ ?_; refine blk_far ?_ NB399_468.out _; refine sb_ ?_; refine blk_far ?_ NB399_468.out _; refine sb_ ?_; refine blk_far ?_ NB399_468.out _; refine sb_ ?_; refine blk_far ?_ NB399_468.out _; refine sb_ ?_; refine blk_far ?_ NB399_468.out _; refine sb_ ?_; exact BK399.out) hb); have n5_ := mk_ (blk_below (g := gb400) (o := .cells #[.int .i64 a1_0, .string a1_1, .slice A1_2 l1_2.length c1_2, .int .i64 a1_3, .int .i64 a1_4, .slice (some ad447) l1_5.length c1_5] 32 (0, 0)) (by refine sb_ ?_; refine blk_far ?_ NB400_468.out _; refine sb_ ?_; refine blk_far ?_ NB400_468.out _; refine sb_ ?_; refine blk_far ?_ NB400_468.out _; refine sb_ ?_; refine blk_far ?_ NB400_468.out _; refine sb_ ?_; refine blk_far ?_ NB400_468.out _; refine sb_ ?_; refine blk_far ?_ NB400_468.out _; refine sb_ ?_; refine blk_far ?_ NB400_468.out _; refine sb_ ?_; exact BK400.out) hb); have n6_ := mk_ (blk_below (g := gb468) (o := .cells #[.int .i64 t458, .string a1_1, .slice Ao107 t460.length co107, .int .i64 t463, .int .i64 t464, .slice Ao108 t465.length co108] 32 (0, 0)) (by refine sb_ ?_; refine blk_put (cs := #[.int .i64 t458, .string t459, .slice Ao107 t460.length co107, .int .i64 t463, .int .i64 t464, .slice Ao108 t465.length co108]) ?_ 1 _ rfl; refine sb_ ?_; refine blk_put (cs := #[.int .i64 t458, .string t459, .slice Ao107 t460.length co107, .int .i64 t463, .int .i64 t464, .slice none 0 0]) ?_ 5 _ rfl; refine sb_ ?_; refine blk_put (cs := #[.int .i64 t458, .string t459, .slice Ao107 t460.length co107, .int .i64 t463, .int .i64 0, .slice none 0 0]) ?_ 4 _ rfl; refine sb_ ?_; refine blk_put (cs := #[.int .i64 t458, .string t459, .slice Ao107 t460.length co107, .int .i64 0, .int .i64 0, .slice none 0 0]) ?_ 3 _ rfl; refine sb_ ?_; refine blk_put (cs := #[.int .i64 t458, .string t459, .slice none 0 0, .int .i64 0, .int .i64 0, .slice none 0 0]) ?_ 2 _ rfl; refine sb_ ?_; refine blk_put (cs := #[.int .i64 t458, .string (⟨#[]⟩ : ByteArray), .slice none 0 0, .int .i64 0, .int .i64 0, .slice none 0 0]) ?_ 1 _ rfl; refine sb_ ?_; refine blk_put (cs := #[.int .i64 0, .string (⟨#[]⟩ : ByteArray), .slice none 0 0, .int .i64 0, .int .i64 0, .slice none 0 0]) ?_ 0 _ rfl; refine sb_ ?_; exact BK468.out) hb); have n7_ := mk_ (below_step (be3_ HB GE399 GE400 GE468) hb); clear HO452; clear HO457; clear HO462; clear HO467; clear BK399; clear BK400; clear BK468; clear HB; have HO452 := n0_; have HO457 := n1_; have HO462 := n2_; have HO467 := n3_; have BK399 := n4_; have BK400 := n5_; have BK468 := n6_; have HB := n7_; clear n0_ n1_ n2_ n3_ n4_ n5_ n6_ n7_; (try clear hb); (try clear hb2); (try clear hk); (try clear hi)))
           have n0_ := mk_ (Kd.R_drew HO452.out)
           have n1_ := mk_ (Kd.N_drew HO457.out)
           have n2_ := mk_ (Kd.R_drew HO462.out)
           have n3_ := mk_ (Kd.N_drew HO467.out)
           have n4_ := mk_ (blk_drew BK399.out)
           have n5_ := mk_ (blk_drew BK400.out)
           have n6_ := mk_ (blk_drew BK468.out)
           have n7_ := mk_ (below_drew1 HB.out)
           clear HO452
           clear HO457
           clear HO462
           clear HO467
           clear BK399
           clear BK400
           clear BK468
           clear HB
           have HO452 := n0_
           have HO457 := n1_
           have HO462 := n2_
           have HO467 := n3_
           have BK399 := n4_
           have BK400 := n5_
           have BK468 := n6_
           have HB := n7_
           clear n0_ n1_ n2_ n3_ n4_ n5_ n6_ n7_
           refine start_ (n := 11) (S := fun w' => w'.cell? ⟨gb399, 0, none⟩ = some (.slice A0_0 l0_0.length c0_0) ∧ w'.cell? ⟨gb399, 1, none⟩ = some (.slice A0_1 l0_1.length c0_1) ∧ w'.cell? ⟨gb399, 2, none⟩ = some (.int .i64 a0_2) ∧ w'.cell? ⟨gb399, 3, none⟩ = some (.slice A0_3 l0_3.length c0_3) ∧ w'.cell? ⟨gb468, 0, none⟩ = some (.int .i64 t458) ∧ w'.cell? ⟨gb468, 1, none⟩ = some (.string a1_1) ∧ w'.cell? ⟨gb468, 2, none⟩ = some (.slice Ao107 t460.length co107) ∧ w'.cell? ⟨gb468, 3, none⟩ = some (.int .i64 t463) ∧ w'.cell? ⟨gb468, 4, none⟩ = some (.int .i64 t464) ∧ w'.cell? ⟨gb468, 5, none⟩ = some (.slice Ao108 t465.length co108)) (ds := []) #[false, false, false, false, false, false, false, false, false, false, false] (by kernel_rfl) rfl rfl ⟨(blk_cell BK399.out 0).trans rfl, (blk_cell BK399.out 1).trans rfl, (blk_cell BK399.out 2).trans rfl, (blk_cell BK399.out 3).trans rfl, (blk_cell BK468.out 0).trans rfl, (blk_cell BK468.out 1).trans rfl, (blk_cell BK468.out 2).trans rfl, (blk_cell BK468.out 3).trans rfl, (blk_cell BK468.out 4).trans rfl, (blk_cell BK468.out 5).trans rfl⟩ (fun hHeld => ?_); refine with_tabW pentaglotlaw26_EvaluateDuals.tab14 pentaglotlaw26_EvaluateDuals.bits14 (fun HT_ HW_ => ?_)
           generalize w111.drew = w112 at HO452 HO457 HO462 HO467 BK399 BK400 BK468 HB hHeld ⊢
           refine pu_ 3 (some 79) ?_
           refine pu_ 4 (some 80) ?_
           refine tk_ 0 (some 76) hHeld ?_
           refine tk_ 1 (some 77) hHeld ?_
           refine on_ 2 (some 78) (fun K hK => ?_)
           refine goes_ Tryd.func26 (by kernel_rfl) rfl #[.int .i64 4, .agg #[.int .i64 t458, .string a1_1, .slice Ao107 t460.length co107, .int .i64 t463, .int .i64 t464, .slice Ao108 t465.length co108]] (by rfl) rfl rfl (by (try simp only [List.map_toArray, List.map_cons, List.map_nil]); first | done | rfl | (simp only [List.length_drop, List.length_take]; rfl)) ?_
           with_reducible refine (pentaglotlaw26_kid.calls 4 t458 a1_1 (fun k_ => some k_ = (.slice Ao107 t460.length co107 : Value).ownBlock) _ _ t460 t463 t464 (fun k_ => ((some k_ ≠ (.slice Ao107 t460.length co107 : Value).ownBlock ∧ (k_ ≠ gb399 ∧ k_ ≠ gb400)) ∧ k_ ≠ gb468)) _ _ t465 t471 t472 t473 t476 t477 t478 _ ?side1 ?side2 A53.out).mono ?_
           (case side1 => exact Kd.R_V (Kd.R_tight rfl (Kd.R_types (Kd.R_types (Kd.R_types (Kd.R_apart' (Kd.R_apart' (HO462.out) (Kd.N_typed HO457.out) (by decide)) (Kd.N_typed HO467.out) (by decide)) BK399.out (by decide)) BK400.out (by decide)) BK468.out (by decide))))
           (case side2 => exact Kd.N_V (HO467.out))
           rintro e w113 ⟨v474, v479, rfl, ho0, ho1, hb⟩
           refine ⟨_, rfl, ?_⟩
           have n0_ := mk_ (Kd.R_elder' (rq_ HO452) (Kd.R_base ho0) hb)
           have n1_ := mk_ (Kd.N_mono (Kd.N_told (Kd.N_told (Kd.N_old (nq_ HO457) hb) (Kd.R_base ho0)) (Kd.N_base ho1)) (fun _ h_ => h_.1))
           have n2_ := mk_ (Kd.R_elder' (rq_ HO462) (Kd.R_base ho0) hb)
           have n3_ := mk_ (Kd.N_mono (Kd.N_told (Kd.N_told (Kd.N_old (nq_ HO467) hb) (Kd.R_base ho0)) (Kd.N_base ho1)) (fun _ h_ => h_.1))
           have n4_ := mk_ (Kd.R_lower (Kd.R_new' (Kd.R_new' (Kd.R_mono (ok' := fun k_ => True) ho0 (fun _ hk_ => trivial)) (Kd.R_lt (rq_ HO452))) (Kd.R_lt (rq_ HO462))) (below_size (be3_ HB GE399 GE400 GE468)))
           have n5_ := mk_ (Kd.N_lower (Kd.N_mono (ok' := fun k_ => some k_ ≠ (v474 : Value).ownBlock ∧ k_ ≠ gb399 ∧ k_ ≠ gb400 ∧ k_ ≠ gb468) ho1 (fun k_ hk_ => ⟨hk_.2, Or.elim hk_.1 (fun hs_ => Or.elim hs_ (fun hs_ => ((Kd.R_types (Kd.R_types (Kd.R_types (Kd.R_apart' (Kd.R_apart' (HO462.out) (Kd.N_typed HO457.out) (by decide)) (Kd.N_typed HO467.out) (by decide)) BK399.out (by decide)) BK400.out (by decide)) BK468.out (by decide)).1 k_ hs_.symm).1.1.2) (fun hs_ => hs_.1.2.1)) (fun hn_ => (Kd.freshB (g := gb399) (o := .cells #[.slice A0_0 l0_0.length c0_0, .slice A0_1 l0_1.length c0_1, .int .i64 a0_2, .slice A0_3 l0_3.length c0_3] 28 (0, 0)) (bq_ BK399) k_ hn_)), Or.elim hk_.1 (fun hs_ => Or.elim hs_ (fun hs_ => ((Kd.R_types (Kd.R_types (Kd.R_types (Kd.R_apart' (Kd.R_apart' (HO462.out) (Kd.N_typed HO457.out) (by decide)) (Kd.N_typed HO467.out) (by decide)) BK399.out (by decide)) BK400.out (by decide)) BK468.out (by decide)).1 k_ hs_.symm).1.2) (fun hs_ => hs_.1.2.2)) (fun hn_ => (Kd.freshB (g := gb400) (o := .cells #[.int .i64 a1_0, .string a1_1, .slice A1_2 l1_2.length c1_2, .int .i64 a1_3, .int .i64 a1_4, .slice (some ad447) l1_5.length c1_5] 32 (0, 0)) (bq_ BK400) k_ hn_)), Or.elim hk_.1 (fun hs_ => Or.elim hs_ (fun hs_ => ((Kd.R_types (Kd.R_types (Kd.R_types (Kd.R_apart' (Kd.R_apart' (HO462.out) (Kd.N_typed HO457.out) (by decide)) (Kd.N_typed HO467.out) (by decide)) BK399.out (by decide)) BK400.out (by decide)) BK468.out (by decide)).1 k_ hs_.symm).2) (fun hs_ => hs_.2)) (fun hn_ => (Kd.freshB (g := gb468) (o := .cells #[.int .i64 t458, .string a1_1, .slice Ao107 t460.length co107, .int .i64 t463, .int .i64 t464, .slice Ao108 t465.length co108] 32 (0, 0)) (bq_ BK468) k_ hn_))⟩)) (below_size (be3_ HB GE399 GE400 GE468)))
           have n6_ := mk_ (bb_ BK399 hb)
           have n7_ := mk_ (bb_ BK400 hb)
           have n8_ := mk_ (bb_ BK468 hb)
           have n9_ := mk_ (below_step (be3_ HB GE399 GE400 GE468) hb)
           clear HO452
           clear HO457
           clear HO462
           clear HO467
           clear BK399
           clear BK400
           clear BK468
           clear HB
           have HO452 := n0_
           have HO457 := n1_
           have HO462 := n2_
           have HO467 := n3_
           have HO475 := n4_
           have HO480 := n5_
           have BK399 := n6_
           have BK400 := n7_
           have BK468 := n8_
           have HB := n9_
           clear n0_ n1_ n2_ n3_ n4_ n5_ n6_ n7_ n8_ n9_
           (try clear hb)
           (try clear hb2)
           (try clear hk)
           (try clear hi)
           (try clear ho0)
           (try clear ho1)
           obtain ⟨Ao114, co114, eo114⟩ := Kd.R_slice HO475.out
           (first | subst eo114 | (injection eo114 with f1_ f2_ f3_; have f4_ := f1_.symm; have f5_ := f3_.symm; clear f1_ f2_ f3_; subst f4_; subst f5_))
           obtain ⟨Ao115, co115, eo115⟩ := Kd.N_slice HO480.out
           (first | subst eo115 | (injection eo115 with f1_ f2_ f3_; have f4_ := f1_.symm; have f5_ := f3_.symm; clear f1_ f2_ f3_; subst f4_; subst f5_))
           refine hK.out _ _ ⟨(blk_cell BK399.out 0).trans rfl, (blk_cell BK399.out 1).trans rfl, (blk_cell BK399.out 2).trans rfl, (blk_cell BK399.out 3).trans rfl, (blk_cell BK468.out 0).trans rfl, (blk_cell BK468.out 1).trans rfl, (blk_cell BK468.out 2).trans rfl, (blk_cell BK468.out 3).trans rfl, (blk_cell BK468.out 4).trans rfl, (blk_cell BK468.out 5).trans rfl⟩ (fun hHeld => ?_)
           clear hK K
           refine no_ (N := some 78) ?_
           refine on_ 5 (some 81) (fun K hK => ?_)
           refine goes_ Tryd.func20 (by kernel_rfl) rfl #[.agg #[.slice A0_0 l0_0.length c0_0, .slice A0_1 l0_1.length c0_1, .int .i64 a0_2, .slice A0_3 l0_3.length c0_3], .agg #[.int .i64 t471, .string t472, .slice Ao114 t473.length co114, .int .i64 t476, .int .i64 t477, .slice Ao115 t478.length co115], .int .i64 a2, .int .i64 a3] (by rfl) rfl rfl (by (try simp only [List.map_toArray, List.map_cons, List.map_nil]); first | done | rfl | (simp only [List.length_drop, List.length_take]; rfl)) ?_
           with_reducible refine (pentaglotlaw26_at.calls kj41 _ _ l0_0 _ _ l0_1 a0_2 _ _ l0_3 t471 t472 _ _ t473 t476 t477 _ _ t478 a2 a3 t481 t482 _ ?side1 ?side2 ?side3 ?side4 ?side5 ?side6 ?side7 ?side8 ?side9 ?side10 A54.out (tb_on HTB.out (be3_ HB GE399 GE400 GE468))).mono ?_
           (case side1 => exact cs_ (Kd.C_below HR0_0.out HB.out))
           (case side2 => exact HC0_0.out)
           (case side3 => exact cs_ (Kd.C_below HR0_1.out HB.out))
           (case side4 => exact HC0_1.out)
           (case side5 => exact cs_ (Kd.C_below HR0_3.out HB.out))
           (case side6 => exact HC0_3.out)
           (case side7 => repeat (first | exact (Kd.R_reads' HO475.out).2.2 | (with_reducible refine Kd.C_alloc ?_ _) | (with_reducible refine Kd.C_drewN ?_ _) | (with_reducible refine Kd.C_drew ?_)))
           (case side8 => exact (Kd.R_reads' HO475.out).2.1)
           (case side9 => repeat (first | exact (Kd.N_reads' HO480.out).2.2 | (with_reducible refine Kd.C_alloc ?_ _) | (with_reducible refine Kd.C_drewN ?_ _) | (with_reducible refine Kd.C_drew ?_)))
           (case side10 => exact (Kd.N_reads' HO480.out).2.1)
           rintro e w116 ⟨rfl, hb⟩
           refine ⟨_, rfl, ?_⟩
           have n0_ := mk_ (Kd.R_below (rq_ HO452) hb)
           have n1_ := mk_ (Kd.N_below (nq_ HO457) hb)
           have n2_ := mk_ (Kd.R_below (rq_ HO462) hb)
           have n3_ := mk_ (Kd.N_below (nq_ HO467) hb)
           have n4_ := mk_ (Kd.R_below (rq_ HO475) hb)
           have n5_ := mk_ (Kd.N_below (nq_ HO480) hb)
           have n6_ := mk_ (bb_ BK399 hb)
           have n7_ := mk_ (bb_ BK400 hb)
           have n8_ := mk_ (bb_ BK468 hb)
           have n9_ := mk_ (below_step (be3_ HB GE399 GE400 GE468) hb)
           clear HO452
           clear HO457
           clear HO462
           clear HO467
           clear HO475
           clear HO480
           clear BK399
           clear BK400
           clear BK468
           clear HB
           have HO452 := n0_
           have HO457 := n1_
           have HO462 := n2_
           have HO467 := n3_
           have HO475 := n4_
           have HO480 := n5_
           have BK399 := n6_
           have BK400 := n7_
           have BK468 := n8_
           have HB := n9_
           clear n0_ n1_ n2_ n3_ n4_ n5_ n6_ n7_ n8_ n9_
           (try clear hb)
           (try clear hb2)
           (try clear hk)
           (try clear hi)
           refine hK.out _ _ ⟨(blk_cell BK399.out 0).trans rfl, (blk_cell BK399.out 1).trans rfl, (blk_cell BK399.out 2).trans rfl, (blk_cell BK399.out 3).trans rfl, (blk_cell BK468.out 0).trans rfl, (blk_cell BK468.out 1).trans rfl, (blk_cell BK468.out 2).trans rfl, (blk_cell BK468.out 3).trans rfl, (blk_cell BK468.out 4).trans rfl, (blk_cell BK468.out 5).trans rfl⟩ (fun hHeld => ?_)
           clear hK K
           refine no_ (N := some 81) ?_
           refine pu_ 6 (some 75) ?_
           refine pu_ 7 (some 82) ?_
           refine pu_ 8 (some 83) ?_
           refine pu_ 9 (some 11) ?_
           refine pu_ 10 (some 12) ?_
           refine done_ (done_of HT_.out (by kernel_rfl)) ?_
           try go_wp2
           go_ret
           exact ⟨er_, be3_ HB GE399 GE400 GE468⟩
         ·rw [if_neg c49] at H
          exact absurd H (by simp)
  ·replace c8 := Bool.eq_false_iff.mpr c8
   subst c8
   rw [if_neg nf_] at H
   obtain rfl := Option.some.inj H
   go_enter Tryd.func7, Tryd.ntmps7
   go_wp2_with (first | ((with_reducible refine gate_dst (N := 4) rfl ?_); (try (refine gate_guard (by rfl) ?_; dsimp only)); refine bx_ 4 #[.slice A0_0 l0_0.length c0_0, .slice A0_1 l0_1.length c0_1, .int .i64 a0_2, .slice A0_3 l0_3.length c0_3] 28 ?_; intro gb399 hg w117 hbox hb; have BK399 := mk_ (hbox); have GW399 := mk_ (gs_ hg (be_ HB)); have GE399 := mk_ (gs_ hg (be_ HB)); replace HB := mk_ (below_step (be_ HB) hb); clear hb hbox hg) | ((with_reducible refine gate_dst (N := 5) rfl ?_); (try (refine gate_guard (by rfl) ?_; dsimp only)); refine bx_ 5 #[.int .i64 a1_0, .string a1_1, .slice A1_2 l1_2.length c1_2, .int .i64 a1_3, .int .i64 a1_4, .slice A1_5 l1_5.length c1_5] 32 ?_; intro gb400 hg w118 hbox hb; have n0_ := mk_ (bb_ BK399 hb); have n1_ := mk_ (below_step (be1_ HB GE399) hb); have n2_ := mk_ (hbox); have n3_ := mk_ (gs_ hg (be1_ HB GE399)); have n4_ := mk_ (gs_ hg (be1_ HB GE399)); have n5_ := mk_ ((by rw [hg]; exact Nat.ne_of_lt (blk_lt (g := gb399) (o := .cells #[.slice A0_0 l0_0.length c0_0, .slice A0_1 l0_1.length c0_1, .int .i64 a0_2, .slice A0_3 l0_3.length c0_3] 28 (0, 0)) (bq_ BK399)) : gb399 ≠ gb400)); have n6_ := mk_ ((by rw [hg]; exact Nat.ne_of_gt (blk_lt (g := gb399) (o := .cells #[.slice A0_0 l0_0.length c0_0, .slice A0_1 l0_1.length c0_1, .int .i64 a0_2, .slice A0_3 l0_3.length c0_3] 28 (0, 0)) (bq_ BK399)) : gb400 ≠ gb399)); clear BK399; clear HB; have BK399 := n0_; have HB := n1_; have BK400 := n2_; have GW400 := n3_; have GE400 := n4_; have NB399_400 := n5_; have NB400_399 := n6_; clear n0_ n1_ n2_ n3_ n4_ n5_ n6_; clear hb hbox hg) | ((with_reducible refine gate_callee (f := 12) rfl ?_); refine gl_ (some 14) Tryd.func12 #[] ?_; (with_reducible refine (pentaglotlaw26_awake.calls k  true _ A5.out (tb_on HTB.out (be2_ HB GE399 GE400))).mono ?_); rintro e w119 ⟨rfl, hb⟩; refine ⟨_, rfl, ?_⟩; replace BK399 := mk_ (bb_ BK399 hb); replace BK400 := mk_ (bb_ BK400 hb); replace HB := mk_ (below_step (be2_ HB GE399 GE400) hb); (try clear hb); (try clear hb2); (try clear hk); (try clear hi); have hnb120 := NB399_400.out; have hnc120 := NB400_399.out; obtain ⟨_, _, _, _, _, _, _, _⟩ := hb4_ BK399; obtain ⟨_, _, _, _, _, _, _, _, _, _, _, _⟩ := hb6_ BK400) | ((with_reducible refine gate_callee (f := 13) rfl ?_); refine gl_ (some 18) Tryd.func13 #[.agg #[.slice A0_0 l0_0.length c0_0, .slice A0_1 l0_1.length c0_1, .int .i64 a0_2, .slice A0_3 l0_3.length c0_3], .agg #[.int .i64 a1_0, .string a1_1, .slice A1_2 l1_2.length c1_2, .int .i64 a1_3, .int .i64 a1_4, .slice A1_5 l1_5.length c1_5]] ?_; (with_reducible refine (pentaglotref26_Light.calls k _ _ l0_0 _ _ l0_1 a0_2 _ _ l0_3 a1_0 a1_1 _ _ l1_2 a1_3 a1_4 _ _ l1_5 false _ ?side1 ?side2 ?side3 ?side4 ?side5 ?side6 ?side7 ?side8 ?side9 ?side10 A7.out).mono ?_); (case side1 => exact cs_ (Kd.C_below HR0_0.out HB.out)); (case side2 => exact HC0_0.out); (case side3 => exact cs_ (Kd.C_below HR0_1.out HB.out)); (case side4 => exact HC0_1.out); (case side5 => exact cs_ (Kd.C_below HR0_3.out HB.out)); (case side6 => exact HC0_3.out); (case side7 => exact cs_ (Kd.C_below HR1_2.out HB.out)); (case side8 => exact HC1_2.out); (case side9 => exact cs_ (Kd.C_below HR1_5.out HB.out)); (case side10 => exact HC1_5.out); rintro e w123 ⟨rfl, hb⟩; refine ⟨_, rfl, ?_⟩; replace BK399 := mk_ (bb_ BK399 hb); replace BK400 := mk_ (bb_ BK400 hb); replace HB := mk_ (below_step (be2_ HB GE399 GE400) hb); (try clear hb); (try clear hb2); (try clear hk); (try clear hi)))
   go_ret
   exact ⟨er_, be2_ HB GE399 GE400⟩
 ·replace c6 := Bool.eq_false_iff.mpr c6
  subst c6
  rw [if_neg nf_] at H
  obtain rfl := Option.some.inj H
  go_enter Tryd.func7, Tryd.ntmps7
  go_wp2_with (first | ((with_reducible refine gate_dst (N := 4) rfl ?_); (try (refine gate_guard (by rfl) ?_; dsimp only)); refine bx_ 4 #[.slice A0_0 l0_0.length c0_0, .slice A0_1 l0_1.length c0_1, .int .i64 a0_2, .slice A0_3 l0_3.length c0_3] 28 ?_; intro gb399 hg w124 hbox hb; have BK399 := mk_ (hbox); have GW399 := mk_ (gs_ hg (be_ HB)); have GE399 := mk_ (gs_ hg (be_ HB)); replace HB := mk_ (below_step (be_ HB) hb); clear hb hbox hg) | ((with_reducible refine gate_dst (N := 5) rfl ?_); (try (refine gate_guard (by rfl) ?_; dsimp only)); refine bx_ 5 #[.int .i64 a1_0, .string a1_1, .slice A1_2 l1_2.length c1_2, .int .i64 a1_3, .int .i64 a1_4, .slice A1_5 l1_5.length c1_5] 32 ?_; intro gb400 hg w125 hbox hb; have n0_ := mk_ (bb_ BK399 hb); have n1_ := mk_ (below_step (be1_ HB GE399) hb); have n2_ := mk_ (hbox); have n3_ := mk_ (gs_ hg (be1_ HB GE399)); have n4_ := mk_ (gs_ hg (be1_ HB GE399)); have n5_ := mk_ ((by rw [hg]; exact Nat.ne_of_lt (blk_lt (g := gb399) (o := .cells #[.slice A0_0 l0_0.length c0_0, .slice A0_1 l0_1.length c0_1, .int .i64 a0_2, .slice A0_3 l0_3.length c0_3] 28 (0, 0)) (bq_ BK399)) : gb399 ≠ gb400)); have n6_ := mk_ ((by rw [hg]; exact Nat.ne_of_gt (blk_lt (g := gb399) (o := .cells #[.slice A0_0 l0_0.length c0_0, .slice A0_1 l0_1.length c0_1, .int .i64 a0_2, .slice A0_3 l0_3.length c0_3] 28 (0, 0)) (bq_ BK399)) : gb400 ≠ gb399)); clear BK399; clear HB; have BK399 := n0_; have HB := n1_; have BK400 := n2_; have GW400 := n3_; have GE400 := n4_; have NB399_400 := n5_; have NB400_399 := n6_; clear n0_ n1_ n2_ n3_ n4_ n5_ n6_; clear hb hbox hg) | ((with_reducible refine gate_callee (f := 12) rfl ?_); refine gl_ (some 14) Tryd.func12 #[] ?_; (with_reducible refine (pentaglotlaw26_awake.calls k  false _ A5.out (tb_on HTB.out (be2_ HB GE399 GE400))).mono ?_); rintro e w126 ⟨rfl, hb⟩; refine ⟨_, rfl, ?_⟩; replace BK399 := mk_ (bb_ BK399 hb); replace BK400 := mk_ (bb_ BK400 hb); replace HB := mk_ (below_step (be2_ HB GE399 GE400) hb); (try clear hb); (try clear hb2); (try clear hk); (try clear hi)))
  go_ret
  exact ⟨er_, be2_ HB GE399 GE400⟩

/-- THE ONE PURE STATEMENT of pentaglotlaw26_EvaluateDuals. -/
def pentaglotlaw26_EvaluateDuals.Pure : Prop := ∀ (p0 : S28) (p1 : S32) (p2 : Int) (p3 : Int), wf28 p0 → wf32 p1 → (Lit.int .i64 p2).wf = true → (Lit.int .i64 p3).wf = true → bulk28 p0 + bulk32 p1 + 1 + 1 ≤ 1048576 → ∃ k, pentaglotlaw26_EvaluateDuals.f k p0.f0.f0 p0.f0.f1 p0.f0.f2 p0.f1 p1.f0 p1.f1 p1.f2 p1.f3 p1.f4 p1.f5 p2 p3 = some true

end Go.Proofs.YtolpckflofjfhaaDoor.P
