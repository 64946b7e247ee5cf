/- PROVED: the law AnaphoraCounts returns true and leaves its arguments as they are: For every sentence, Pronouns returns the number of its pronouns. Conditions: what it reads is of bulk at most 1048576 (the given statement UptoSaid). -/
import Derived.Test.YtfampmajmbediaaRows
import Derived.Test.YtfampmajmbediaaPKb
import Derived.Test.YtfampmajmbediaaPx41
import Derived.Test.YtfampmajmbediaaPureAnaphoraCounts
import Derived.WalkKit
import Derived.ProofKit
import Derived.OpenShut
import Derived.ShutString
import Derived.ChangeOld
import Derived.Below
import Derived.SizedLaws
import Derived.Deep.CondSized
namespace Go.Proofs.Ytfampmajmbediaa.anaphoraCounts
open Go.ChangeShapes Go.WideShapes Go.ChangeAt Go.RowKit
open Go.ChangeMaps (open_string shut_string)
open Go.Proofs.Ytfampmajmbediaa.P Go.Proofs.YtfampmajmbediaaW.PrintWords
set_option linter.unusedVariables false
theorem own : ownKnob Try.prog.godebug = none := by kernel_rfl
theorem laidOut : laidOutB Try.prog = true := by kernel_rfl
set_option maxRecDepth 100000 in
theorem contract (H : Type) (enc : TypeId × Value → H) (W : World) (base : Nat) (args : Array Value) (ds gs : List (DataW H)) (before : List MemPlace)
    (hval : ∀ (j : Nat) t v, Try.f8.params[j]? = some t → args[j]? = some v → Value.okWide Try.prog W .any base t v)
    (hW : DataW.Whole enc Try.prog Try.f8.params.toList Rows.anaphoraCountsSpec.vars false W args.toList ds gs before) (hk : Rows.uptoSmall H (ds ++ gs) = true) :
    Calls Try.prog 8 args W fun e W' => ∃ v, e = .returned v ∧ Rows.anaphoraCountsSpec.post enc Try.prog Try.f8 false true false false W args v W' := by
  have hW' := hW
  obtain ⟨p, q, hA0, hV, rfl, hfz, hnd⟩ := hW
  have hA : DataW.TrodAll enc Try.prog W 0 (fun _ => true) true Try.f8.params.toList args.toList ds p := hA0
  rw [Try.params8] at hA hval
  obtain ⟨v0, vs0, d0, ds0, p0, q0, hargs, rfl, rfl, h0, r0⟩ := trodAll_cons hA
  obtain ⟨rfl, rfl, rfl⟩ := trodAll_nil r0
  obtain rfl : args = #[v0] := by cases args; simp_all
  obtain ⟨rfl, rfl⟩ := trodVars_none hV
  have hb : Rows.uptoBulkAll [d0] ≤ 1048576 := of_decide_eq_true hk
  simp only [Rows.uptoBulkAll] at hb
  have lt0 : ∀ x ∈ p0, x.block < W.heap.size := by obtain ⟨m, hm⟩ := h0; exact DataW.trod_lt m _ _ _ hm
  obtain ⟨x0, K0, w0, b0⟩ := At.here (at27_27) h0
  obtain ⟨cs0, rfl⟩ := okWide_agg Try.underlying27 (hval 0 27 v0 rfl rfl)
  replace K0 : k27.K W x0 cs0.toList := K0
  obtain ⟨A0_1, c0_1, A0_2, c0_2, e0, l0_1, g0_1, l0_2, g0_2⟩ := k27_open K0
  replace e0 := congrArg List.toArray e0
  rw [Array.toArray_toList] at e0
  subst e0
  have hb' : bulk27 x0 ≤ 1048576 := by have := b0; omega
  obtain ⟨k, hf⟩ := Pure.AnaphoraCounts x0 w0 hb'
  refine (pentaglotlaw46_AnaphoraCounts.calls k x0.f0 _ _ x0.f1 _ _ x0.f2 true W g0_1 l0_1 g0_2 l0_2 hf).mono fun e W' ⟨he, bel0⟩ => ?_
  subst he
  have bel := bel0
  exact ⟨_, rfl, _, _, _, [], _, [], hW', trodAll_mk1 (shut_bool Try.underlying4 _), (trodAll_cons_mk (Below.trod laidOut (by kernel_rfl) (of_decide_eq_true (by kernel_rfl)) h0 bel lt0) trodAll_mk0), rfl, bel.frame _, fun h => by cases h⟩
set_option maxRecDepth 100000 in
theorem lifted (os : Os) (started : os.Started) (H : Type) (enc : TypeId × Value → H) (F : Stop.Interp) :
    ReturnsInHanded {} Try.checked os 8 .any ((Rows.OpenSpec.upto Rows.anaphoraCountsSpec).pre6 enc Try.prog Try.f8 Rows.anaphoraCountsUptoRow.domain false) (((Rows.OpenSpec.upto Rows.anaphoraCountsSpec).at F).post enc Try.prog Try.f8 false true false false) := by
  refine returnsInHanded_of_cond_sized (C := Try.checked) (s := Rows.OpenSpec.upto Rows.anaphoraCountsSpec) (k := Rows.uptoSmall) rfl own started (by kernel_rfl) Try.func8
    (OpenSpec.witness (enc := enc) (C := Try.checked) (s := Rows.OpenSpec.upto Rows.anaphoraCountsSpec) (k := Rows.uptoSmall) rfl false ⟨#[], #[.agg #[.string ByteArray.empty, .slice none 0 0, .slice none 0 0]], []⟩ 8 (by kernel_rfl) (by kernel_rfl) (by kernel_rfl)
      (x := ([.agg [.lit (.string []), .nil, .nil]], [], [])) (by kernel_rfl) rfl (by kernel_rfl)) ?_
  intro W base args ds gs before hval0 hW hcnd hk hsz0 _
  exact contract H enc W base args ds gs before hval0 hW hk
theorem proved : Rows.AnaphoraCountsUptoSaid :=
  OpenClaim.holds_of_cond 8 Try.f8 rfl rfl rfl rfl rfl rfl rfl ⟨rfl, rfl, rfl, rfl, rfl⟩ rfl rfl rfl rfl rfl (by kernel_rfl) Try.func8 (by kernel_rfl)
    (of_decide_eq_true (by kernel_rfl)) (by unfold Func.isWrapper; first | (rw [if_pos (by decide +kernel)]; kernel_rfl) | (rw [if_neg (by decide +kernel)]; exact ⟨rfl, rfl⟩))
    (fun os started H enc _ F => lifted os started H enc F)
#print axioms proved
end Go.Proofs.Ytfampmajmbediaa.anaphoraCounts
namespace Go.Proofs.Ytfampmajmbediaa
/-- The row, under a short name, for the claim. -/
theorem anaphoraCounts_holds : Rows.AnaphoraCountsUptoSaid := anaphoraCounts.proved
end Go.Proofs.Ytfampmajmbediaa
