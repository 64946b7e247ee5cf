import Derived.Test.YtfampmajmbediaaPx13
import Derived.Test.YtfampmajmbediaaPx14
import Derived.Test.YtfampmajmbediaaPx17
import Derived.Test.YtfampmajmbediaaPx22
import Derived.Test.YtfampmajmbediaaPx42
import Derived.Test.YtfampmajmbediaaAnC
namespace Go.Proofs.Ytfampmajmbediaa.Pure
open Go.RowKit Go.Proofs.Ytfampmajmbediaa.P Go.Proofs.YtfampmajmbediaaW.PrintWords Go.Proofs.YtfampmajmbediaaW.PrintLast Go.Proofs.Ytfampmajmbediaa.An
theorem AnaphoraPrefixes : pentaglotlaw46_AnaphoraPrefixes.Pure := by
  intro p0 p1 hwf hwf1 hb
  refine Ev.rounds ?_
  obtain ⟨s, hs, hsn⟩ := ev_notice p0 (by omega)
  have yes : Ev (fun k => pentaglotlaw46_AnaphoraPrefixes.j0 k p0 p1 true) true := Ev.step (f := fun _ => some true) (fun k => by rw [pentaglotlaw46_AnaphoraPrefixes.j0, if_pos rfl]) (Ev.now _)
  refine Ev.congr (f := fun k => (pentaglotlaw46_awake.f k).bind fun t634 => (if t634 = true then ((pentaglotlaw46_notice.f k p0).bind fun t635 => (if t635 = true then (if p1 < 0 then (pentaglotlaw46_AnaphoraPrefixes.j0 k p0 p1 true) else (pentaglotlaw46_AnaphoraPrefixes.j0 k p0 p1 (decide (p1 > (p0.length : Int))))) else (pentaglotlaw46_AnaphoraPrefixes.j0 k p0 p1 true))) else (some false))) (fun k => rfl) (Ev.bind ev_awake ?_)
  simp only [if_pos]
  refine Ev.bind (f := fun k t635 => (if t635 = true then (if p1 < 0 then (pentaglotlaw46_AnaphoraPrefixes.j0 k p0 p1 true) else (pentaglotlaw46_AnaphoraPrefixes.j0 k p0 p1 (decide (p1 > (p0.length : Int))))) else (pentaglotlaw46_AnaphoraPrefixes.j0 k p0 p1 true))) hs ?_
  cases s with
  | false => simpa only [Bool.false_eq_true, if_false] using yes
  | true =>
    simp only [if_pos]
    obtain ⟨h8, hbt⟩ := hsn rfl
    by_cases h0 : p1 < 0
    · simpa only [if_pos h0] using yes
    by_cases h1 : p1 > (p0.length : Int)
    · simpa only [if_neg h0, decide_eq_true h1] using yes
    simp only [if_neg h0, decide_eq_false h1]
    obtain ⟨v, hv, hvl⟩ := ev_resolve p0 (by omega) (fun t ht => (hbt t ht).1) (fun t ht => (hbt t ht).2)
    have hn : p1.toNat ≤ p0.length := by omega
    refine Ev.step (f := fun k => (anaphora_Resolve.f k p0).bind fun bt636 => (if bt636.2 = 0 then (pentaglotlaw46_AnaphoraPrefixes.j1 k p0 p1 bt636.1 bt636.2 ((bt636.1.length : Int) != (p0.length : Int))) else (pentaglotlaw46_AnaphoraPrefixes.j1 k p0 p1 bt636.1 bt636.2 true))) (fun k => by rw [pentaglotlaw46_AnaphoraPrefixes.j0, if_neg (by decide)]) (Ev.bind hv ?_)
    by_cases he : v.2 = 0
    · have hvl' := hvl he
      have hq : ((v.1.length : Int) != (p0.length : Int)) = false := by simp [hvl']
      simp only [if_pos he, hq]
      obtain ⟨K, hK⟩ := hv
      have hx : Ev (fun k => anaphora_Resolve.f k (p0.take p1.toNat)) (v.1.take p1.toNat, 0) := ⟨K, fun k hk => resolve_take k p0 v.1 p1.toNat hn (by omega) ((hK k hk).trans (congrArg some (Prod.ext rfl he)))⟩
      refine Ev.step (f := fun k => (anaphora_Resolve.f k (p0.take p1.toNat)).bind fun bt644 => (if bt644.2 = 0 then (if p1 ≤ (v.1.length : Int) then ((pentaglotref31_SameAll.f bt644.1 (v.1.take p1.toNat)).bind fun t653 => (some t653)) else (none)) else (some false))) (fun k => by rw [pentaglotlaw46_AnaphoraPrefixes.j1, if_neg (by decide), if_pos (by omega), if_pos (by omega)]) (Ev.bind hx ?_)
      have hp : p1 ≤ (v.1.length : Int) := by omega
      simp only [if_pos hp, if_pos, pentaglotref31_SameAll.f, sameBL_refl, Option.bind_some]
      exact Ev.now _
    · simp only [if_neg he]
      refine Ev.step (f := fun _ => some (v.2 != 0)) (fun k => by rw [pentaglotlaw46_AnaphoraPrefixes.j1, if_pos rfl]) ?_
      have : (v.2 != 0) = true := by simpa using he
      rw [this]
      exact Ev.now _
end Go.Proofs.Ytfampmajmbediaa.Pure
