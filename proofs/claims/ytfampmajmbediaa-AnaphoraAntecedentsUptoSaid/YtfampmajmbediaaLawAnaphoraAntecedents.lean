/- PROVED: the law AnaphoraAntecedents returns true and leaves its arguments as they are: For every notice of at most 8 sentences and every number, Antecedent returns the specified noun phrase or error. Conditions: what it reads is of bulk at most 1048576 (the given statement UptoSaid). -/
import Derived.Test.YtfampmajmbediaaRows
import Derived.Test.YtfampmajmbediaaPKb
import Derived.Test.YtfampmajmbediaaPx37
import Derived.Test.YtfampmajmbediaaPureAnaphoraAntecedents
import Derived.WalkKit
import Derived.ProofKit
import Derived.OpenShut
import Derived.ShutString
import Derived.ChangeOld
import Derived.Below
import Derived.SizedLaws
import Derived.Deep.CondSized
namespace Go.Proofs.Ytfampmajmbediaa.anaphoraAntecedents
open Go.ChangeShapes Go.WideShapes Go.ChangeAt Go.RowKit
open Go.ChangeMaps (open_string shut_string)
open Go.Proofs.Ytfampmajmbediaa.P Go.Proofs.YtfampmajmbediaaW.PrintWords
set_option linter.unusedVariables false
theorem own : ownKnob Try.prog.godebug = none := by kernel_rfl
theorem laidOut : laidOutB Try.prog = true := by kernel_rfl
set_option maxRecDepth 100000 in
theorem contract (H : Type) (enc : TypeId × Value → H) (W : World) (base : Nat) (args : Array Value) (ds gs : List (DataW H)) (before : List MemPlace)
    (hval : ∀ (j : Nat) t v, Try.f3.params[j]? = some t → args[j]? = some v → Value.okWide Try.prog W .any base t v)
    (hW : DataW.Whole enc Try.prog Try.f3.params.toList Rows.anaphoraAntecedentsSpec.vars false W args.toList ds gs before) (hk : Rows.uptoSmall H (ds ++ gs) = true) :
    Calls Try.prog 3 args W fun e W' => ∃ v, e = .returned v ∧ Rows.anaphoraAntecedentsSpec.post enc Try.prog Try.f3 false true false false W args v W' := by
  have hW' := hW
  obtain ⟨p, q, hA0, hV, rfl, hfz, hnd⟩ := hW
  have hA : DataW.TrodAll enc Try.prog W 0 (fun _ => true) true Try.f3.params.toList args.toList ds p := hA0
  rw [Try.params3] at hA hval
  obtain ⟨v0, vs0, d0, ds0, p0, q0, hargs, rfl, rfl, h0, r0⟩ := trodAll_cons hA
  obtain ⟨v1, vs1, d1, ds1, p1, q1, rfl, rfl, rfl, h1, r1⟩ := trodAll_cons r0
  obtain ⟨rfl, rfl, rfl⟩ := trodAll_nil r1
  obtain rfl : args = #[v0, v1] := by cases args; simp_all
  obtain ⟨rfl, rfl⟩ := trodVars_none hV
  have hb : Rows.uptoBulkAll [d0, d1] ≤ 1048576 := of_decide_eq_true hk
  simp only [Rows.uptoBulkAll] at hb
  have lt0 : ∀ x ∈ p0, x.block < W.heap.size := by obtain ⟨m, hm⟩ := h0; exact DataW.trod_lt m _ _ _ hm
  obtain ⟨x0, K0, w0, b0⟩ := At.here (fun f_ => At.slice Try.underlying22 (show Try.prog.cellsOf 27 = 3 from by kernel_rfl) (fun n_ _ => (at27_27) n_)) h0
  obtain ⟨A0, c0, e0, l0, g0⟩ := K0
  obtain rfl : v0 = .slice A0 x0.length c0 := by obtain ⟨a_, n_, m_, rfl⟩ := okWide_slice Try.underlying22 (hval 0 22 v0 rfl rfl); simpa [Value.cells] using e0
  have lt1 : ∀ x ∈ p1, x.block < W.heap.size := by obtain ⟨m, hm⟩ := h1; exact DataW.trod_lt m _ _ _ hm
  obtain ⟨x1, K1, w1, b1⟩ := At.here (At.int Try.underlying3) h1
  replace K1 : v1.cells.toList = [.int .i64 x1] := K1
  obtain rfl : v1 = .int .i64 x1 := by obtain ⟨n_, e_, _⟩ := open_int Try.underlying3 (hval 1 3 v1 rfl rfl) h1; subst e_; simpa [Value.cells] using K1
  have hb' : ((x0.map bulk27).sum + 1) + 1 ≤ 1048576 := by have := b0; have := b1; omega
  obtain ⟨k, hf⟩ := Pure.AnaphoraAntecedents x0 x1 w0 w1 hb'
  refine (pentaglotlaw46_AnaphoraAntecedents.calls k _ _ x0 x1 true W g0 l0 hf).mono fun e W' ⟨he, bel0⟩ => ?_
  subst he
  have bel := bel0
  exact ⟨_, rfl, _, _, _, [], _, [], hW', trodAll_mk1 (shut_bool Try.underlying4 _), (trodAll_cons_mk (Below.trod laidOut (by kernel_rfl) (of_decide_eq_true (by kernel_rfl)) h0 bel lt0) (trodAll_cons_mk (Below.trod laidOut (by kernel_rfl) (of_decide_eq_true (by kernel_rfl)) h1 bel lt1) trodAll_mk0)), rfl, bel.frame _, fun h => by cases h⟩
set_option maxRecDepth 100000 in
theorem lifted (os : Os) (started : os.Started) (H : Type) (enc : TypeId × Value → H) (F : Stop.Interp) :
    ReturnsInHanded {} Try.checked os 3 .any ((Rows.OpenSpec.upto Rows.anaphoraAntecedentsSpec).pre6 enc Try.prog Try.f3 Rows.anaphoraAntecedentsUptoRow.domain false) (((Rows.OpenSpec.upto Rows.anaphoraAntecedentsSpec).at F).post enc Try.prog Try.f3 false true false false) := by
  refine returnsInHanded_of_cond_sized (C := Try.checked) (s := Rows.OpenSpec.upto Rows.anaphoraAntecedentsSpec) (k := Rows.uptoSmall) rfl own started (by kernel_rfl) Try.func3
    (OpenSpec.witness (enc := enc) (C := Try.checked) (s := Rows.OpenSpec.upto Rows.anaphoraAntecedentsSpec) (k := Rows.uptoSmall) rfl false ⟨#[], #[.slice none 0 0, .int .i64 0], []⟩ 8 (by kernel_rfl) (by kernel_rfl) (by kernel_rfl)
      (x := ([.nil, .lit (.int .i64 0)], [], [])) (by kernel_rfl) rfl (by kernel_rfl)) ?_
  intro W base args ds gs before hval0 hW hcnd hk hsz0 _
  exact contract H enc W base args ds gs before hval0 hW hk
theorem proved : Rows.AnaphoraAntecedentsUptoSaid :=
  OpenClaim.holds_of_cond 3 Try.f3 rfl rfl rfl rfl rfl rfl rfl ⟨rfl, rfl, rfl, rfl, rfl⟩ rfl rfl rfl rfl rfl (by kernel_rfl) Try.func3 (by kernel_rfl)
    (of_decide_eq_true (by kernel_rfl)) (by unfold Func.isWrapper; first | (rw [if_pos (by decide +kernel)]; kernel_rfl) | (rw [if_neg (by decide +kernel)]; exact ⟨rfl, rfl⟩))
    (fun os started H enc _ F => lifted os started H enc F)
#print axioms proved
end Go.Proofs.Ytfampmajmbediaa.anaphoraAntecedents
namespace Go.Proofs.Ytfampmajmbediaa
/-- The row, under a short name, for the claim. -/
theorem anaphoraAntecedents_holds : Rows.AnaphoraAntecedentsUptoSaid := anaphoraAntecedents.proved
end Go.Proofs.Ytfampmajmbediaa
