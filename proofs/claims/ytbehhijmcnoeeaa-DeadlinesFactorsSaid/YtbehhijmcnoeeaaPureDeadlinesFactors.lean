/- The factor, Until and Spend are the reference's: the printed law answers true at every input. -/
import Derived.Test.YtbehhijmcnoeeaaPlainParts
import Derived.Test.YtbehhijmcnoeeaaXAx27
namespace Go.Proofs.Ytbehhijmcnoeeaa.Pure
open Go.RowKit Go.Proofs.Ytbehhijmcnoeeaa.XA Go.Proofs.Ytbehhijmcnoeeaa.Plain Go.Proofs.YtbehhijmcnoeeaaW.PrintWords Go.Proofs.YtbehhijmcnoeeaaW.PrintLast

theorem DeadlinesFactors (d g : Int) (b : Bool) (ls : List S34) (t p : Int) (l : List Int) (a : Int) : ∃ k, assessorlaw51_DeadlinesFactors.f k d g b ls t p l a = some true := by
  refine Ev.rounds (g := fun k => assessorlaw51_DeadlinesFactors.f k d g b ls t p l a) ?_
  unfold assessorlaw51_DeadlinesFactors.f
  refine ev_awake.bind (ev_if_pos rfl ?_)
  have out : Ev (fun k => assessorlaw51_DeadlinesFactors.j0 k t p l a true d g b ls) true := Ev.step (fun k => by rw [assessorlaw51_DeadlinesFactors.j0, if_pos rfl]) (Ev.now _)
  by_cases h1 : (ls.length : Int) > 20
  · exact ev_if_pos h1 out
  refine ev_if_neg h1 ?_
  by_cases h2 : (l.length : Int) > 30
  · rw [decide_eq_true h2]; exact out
  rw [decide_eq_false h2]
  refine Ev.step (fun k => by rw [assessorlaw51_DeadlinesFactors.j0]) (ev_if_neg (by decide) ?_)
  obtain ⟨u, ok, e1, e2⟩ := ev_rUntil d g b ls p
  obtain ⟨x, e3, e4⟩ := ev_rFactor d g b ls t
  refine e1.bind (e2.bind (e3.bind (e4.bind (ev_if_pos (by simp) (ev_if_pos rfl (ev_if_pos (by simp) ?_))))))
  refine (ev_spend l (by omega) a).bind ((ev_rspend l (by omega) a).bind ?_)
  exact (ev_ints _ (by rw [spend_length]; omega)).bind (Ev.now _)

end Go.Proofs.Ytbehhijmcnoeeaa.Pure
