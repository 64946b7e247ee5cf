/- PROVED: the law CalendarInverts returns true and leaves its arguments as they are: The day of the solar date of a day is that day, and the date of the day of a date is that date. Conditions: none beyond the given statement. -/
import Derived.Test.YtifopbfedkmgoaaRows
import Derived.Test.YtifopbfedkmgoaaPKb
import Derived.Test.YtifopbfedkmgoaaPx8
import Derived.Test.YtifopbfedkmgoaaPureCalendarInverts
import Derived.WalkKit
import Derived.ProofKit
import Derived.OpenShut
import Derived.ShutString
import Derived.ChangeOld
import Derived.Below
import Derived.SizedLaws
import Derived.Deep.CondSized
namespace Go.Proofs.Ytifopbfedkmgoaa.calendarInverts
open Go.ChangeShapes Go.WideShapes Go.ChangeAt Go.RowKit
open Go.ChangeMaps (open_string shut_string)
open Go.Proofs.Ytifopbfedkmgoaa.P Go.Proofs.YtifopbfedkmgoaaW.PrintWords
set_option linter.unusedVariables false
theorem own : ownKnob Try.prog.godebug = none := by kernel_rfl
theorem laidOut : laidOutB Try.prog = true := by kernel_rfl
set_option maxRecDepth 100000 in
theorem contract (H : Type) (enc : TypeId × Value → H) (W : World) (base : Nat) (args : Array Value) (ds gs : List (DataW H)) (before : List MemPlace)
    (hval : ∀ (j : Nat) t v, Try.f13.params[j]? = some t → args[j]? = some v → Value.okWide Try.prog W .any base t v)
    (hW : DataW.Whole enc Try.prog Try.f13.params.toList Rows.calendarInvertsSpec.vars false W args.toList ds gs before) :
    Calls Try.prog 13 args W fun e W' => ∃ v, e = .returned v ∧ Rows.calendarInvertsSpec.post enc Try.prog Try.f13 false true false false W args v W' := by
  have hW' := hW
  obtain ⟨p, q, hA0, hV, rfl, hfz, hnd⟩ := hW
  have hA : DataW.TrodAll enc Try.prog W 0 (fun _ => true) true Try.f13.params.toList args.toList ds p := hA0
  rw [Try.params13] at hA hval
  obtain ⟨v0, vs0, d0, ds0, p0, q0, hargs, rfl, rfl, h0, r0⟩ := trodAll_cons hA
  obtain ⟨v1, vs1, d1, ds1, p1, q1, rfl, rfl, rfl, h1, r1⟩ := trodAll_cons r0
  obtain ⟨rfl, rfl, rfl⟩ := trodAll_nil r1
  obtain rfl : args = #[v0, v1] := by cases args; simp_all
  obtain ⟨rfl, rfl⟩ := trodVars_none hV
  have lt0 : ∀ x ∈ p0, x.block < W.heap.size := by obtain ⟨m, hm⟩ := h0; exact DataW.trod_lt m _ _ _ hm
  obtain ⟨x0, K0, w0, b0⟩ := At.here (At.int Try.underlying3) h0
  replace K0 : v0.cells.toList = [.int .i64 x0] := K0
  obtain rfl : v0 = .int .i64 x0 := by obtain ⟨n_, e_, _⟩ := open_int Try.underlying3 (hval 0 3 v0 rfl rfl) h0; subst e_; simpa [Value.cells] using K0
  have lt1 : ∀ x ∈ p1, x.block < W.heap.size := by obtain ⟨m, hm⟩ := h1; exact DataW.trod_lt m _ _ _ hm
  obtain ⟨x1, K1, w1, b1⟩ := At.here (at30_30) h1
  obtain ⟨cs1, rfl⟩ := okWide_agg Try.underlying30 (hval 1 30 v1 rfl rfl)
  replace K1 : k30.K W x1 cs1.toList := K1
  obtain e1 := k30_open K1
  replace e1 := congrArg List.toArray e1
  rw [Array.toArray_toList] at e1
  subst e1
  obtain ⟨k, hf⟩ := Pure.CalendarInverts x0 x1 w0 w1
  refine (pentaglotlaw17_CalendarInverts.calls k x0 x1.f0 x1.f1 x1.f2 x1.f3 x1.f4 true W  hf).mono fun e W' ⟨he, bel0⟩ => ?_
  subst he
  have bel := bel0
  exact ⟨_, rfl, _, _, _, [], _, [], hW', trodAll_mk1 (shut_bool Try.underlying4 _), (trodAll_cons_mk (Below.trod laidOut (by kernel_rfl) (of_decide_eq_true (by kernel_rfl)) h0 bel lt0) (trodAll_cons_mk (Below.trod laidOut (by kernel_rfl) (of_decide_eq_true (by kernel_rfl)) h1 bel lt1) trodAll_mk0)), rfl, bel.frame _, fun h => by cases h⟩
set_option maxRecDepth 100000 in
theorem lifted (os : Os) (started : os.Started) (H : Type) (enc : TypeId × Value → H) :
    ReturnsInHanded {} Try.checked os 13 .any (Rows.calendarInvertsSpec.pre6 enc Try.prog Try.f13 Rows.calendarInvertsRow.domain false) (Rows.calendarInvertsSpec.post enc Try.prog Try.f13 false true false false) := by
  refine returnsInHanded_of_change_sized (C := Try.checked) own started (by kernel_rfl) Try.func13
    (ChangeSpec.witness6 (enc := enc) (C := Try.checked) false ⟨#[], #[.int .i64 0, .agg #[.int .i64 0, .int .i64 0, .int .i64 0, .int .i64 0, .bool false]], []⟩ 8 (by kernel_rfl) (by kernel_rfl) (by kernel_rfl) (by kernel_rfl)) ?_
  intro W base args ds gs before hval0 hW hcnd hsz0 _
  exact contract H enc W base args ds gs before hval0 hW
theorem over : Rows.calendarInvertsRow.holds Try.pinned (OpenSpec.ofChange Rows.calendarInvertsSpec) :=
  OpenClaim.holds_of_wide 13 Try.f13 rfl rfl rfl rfl rfl rfl rfl ⟨rfl, rfl, rfl, rfl, rfl⟩ rfl rfl rfl rfl rfl (by kernel_rfl) Try.func13 (by kernel_rfl)
    (of_decide_eq_true (by kernel_rfl)) (by unfold Func.isWrapper; first | (rw [if_pos (by decide +kernel)]; kernel_rfl) | (rw [if_neg (by decide +kernel)]; exact ⟨rfl, rfl⟩))
    (fun os started H enc _ => lifted os started H enc)
theorem proved : Rows.CalendarInvertsSaid := over
#print axioms proved
end Go.Proofs.Ytifopbfedkmgoaa.calendarInverts
namespace Go.Proofs.Ytifopbfedkmgoaa
/-- The row, under a short name, for the claim. -/
theorem calendarInverts_holds : Rows.CalendarInvertsSaid := calendarInverts.proved
end Go.Proofs.Ytifopbfedkmgoaa
