import Derived.Test.YtfampmajmbediaaPx9
import Derived.Test.YtfampmajmbediaaPx17
import Derived.Test.YtfampmajmbediaaPx21
import Derived.Test.YtfampmajmbediaaPx31
import Derived.Test.YtfampmajmbediaaPx41
import Derived.Test.YtfampmajmbediaaAnB
namespace Go.Proofs.Ytfampmajmbediaa.Pure
open Go.RowKit Go.Proofs.Ytfampmajmbediaa.P Go.Proofs.YtfampmajmbediaaW.PrintWords Go.Proofs.YtfampmajmbediaaW.PrintLast Go.Proofs.Ytfampmajmbediaa.An
theorem AnaphoraCounts : pentaglotlaw46_AnaphoraCounts.Pure := by
  intro p0 hwf hb
  refine Ev.rounds ?_
  obtain ⟨s, hs, _⟩ := ev_sentence p0 (by omega)
  refine Ev.congr (f := fun k => (pentaglotlaw46_awake.f k).bind fun t => if t = true then ((pentaglotref39_Sentence.f k p0.f0 p0.f1 p0.f2).bind fun s => if s = true then ((anaphora_Pronouns.f k p0.f0 p0.f1 p0.f2).bind fun x => (pentaglotref46_Pronouns.f k p0.f0 p0.f1 p0.f2).bind fun y => some (x == y)) else some true) else some false) (fun k => rfl) (Ev.bind ev_awake ?_)
  simp only [if_pos]
  refine Ev.bind (f := fun k s => if s = true then ((anaphora_Pronouns.f k p0.f0 p0.f1 p0.f2).bind fun x => (pentaglotref46_Pronouns.f k p0.f0 p0.f1 p0.f2).bind fun y => some (x == y)) else some true) hs ?_
  cases s with
  | false => exact Ev.now _
  | true =>
    simp only [if_pos]
    refine Ev.bind (f := fun k x => (pentaglotref46_Pronouns.f k p0.f0 p0.f1 p0.f2).bind fun y => some (x == y)) (ev_pronouns p0 hb) (Ev.bind (f := fun _ y => some (_ == y)) (ev_refpro p0 hb) ?_)
    rw [beq_self_eq_true]
    exact Ev.now _
end Go.Proofs.Ytfampmajmbediaa.Pure
