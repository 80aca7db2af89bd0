/- The due time and the lateness are the reference's: the printed law answers true at every input. -/
import Derived.Test.YtbehhijmcnoeeaaPlainRefDue
import Derived.Test.YtbehhijmcnoeeaaXAx19
namespace Go.Proofs.Ytbehhijmcnoeeaa.Pure
open Go.RowKit Go.Proofs.Ytbehhijmcnoeeaa.XA Go.Proofs.Ytbehhijmcnoeeaa.Plain Go.Proofs.YtbehhijmcnoeeaaW.PrintWords Go.Proofs.YtbehhijmcnoeeaaW.PrintLast

theorem DeadlinesDue (d g : Int) (b : Bool) (ls : List S34) (l : List S49) (s : ByteArray) (a3 a4 : Int) (hm : l.length ≤ maxLen) : ∃ k, assessorlaw51_DeadlinesDue.f k d g b ls l s a3 a4 = some true := by
  refine Ev.rounds (g := fun k => assessorlaw51_DeadlinesDue.f k d g b ls l s a3 a4) ?_
  unfold assessorlaw51_DeadlinesDue.f
  refine ev_awake.bind (ev_if_pos rfl ?_)
  obtain ⟨r, hr, he⟩ := ev_few d g b ls l (by unfold maxLen at hm; omega) s
  refine he.bind ?_
  cases r with
  | false => exact ev_if_neg (by decide) (Ev.now _)
  | true =>
    have hl := (hr rfl).2
    refine ev_if_pos rfl ((ev_valid d g b ls).bind ((ev_rvalid d g b ls).bind (ev_if_pos (beq_self_eq_true _) ?_)))
    refine (ev_Due d g b ls l (by omega) s a4).bind ((ev_rDue d g b ls l (by omega) s a4).bind (ev_if_pos rfl ?_))
    refine (ev_Late d g b ls a3 a4).bind ((ev_rLate d g b ls a3 a4).bind ?_)
    rw [beq_self_eq_true]
    exact Ev.now _

end Go.Proofs.Ytbehhijmcnoeeaa.Pure
