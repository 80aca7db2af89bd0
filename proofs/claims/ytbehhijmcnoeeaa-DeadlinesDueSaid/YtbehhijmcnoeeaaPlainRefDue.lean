/- The reference's due time and lateness: the same plain functions; conditions as written in each lemma. -/
import Derived.Test.YtbehhijmcnoeeaaPlainDue
import Derived.Test.YtbehhijmcnoeeaaPlainRefValid
import Derived.Test.YtbehhijmcnoeeaaXAx18
namespace Go.Proofs.Ytbehhijmcnoeeaa.Plain
open Go.RowKit Go.Proofs.Ytbehhijmcnoeeaa.XA Go.Proofs.YtbehhijmcnoeeaaW.PrintWords Go.Proofs.YtbehhijmcnoeeaaW.PrintLast Go.Proofs.YtbehhijmcnoeeaaW.PrintMore

theorem ev_rdue_l (l : List S49) (hl : l.length ≤ 1000) (s : ByteArray) (t : Int) (m : Nat) : ∀ (i : Nat) (d : Int), l.length - i = m → i ≤ l.length →
    Ev (fun k => assessorref51_Due.l0 k l s t d (i : Int)) (dueOf s t d (l.drop i)) := by
  induction m with
  | zero =>
    intro i d hm hi
    have e : i = l.length := by omega
    rw [e, List.drop_length]
    exact Ev.step (f := fun _ => some d) (fun k => by rw [assessorref51_Due.l0, if_neg (by omega)]) (Ev.now _)
  | succ m ih =>
    intro i d hm hi
    obtain ⟨q1, q2, hlt⟩ := nsub hm
    have b0 : (0 : Int) ≤ (i : Int) := Int.natCast_nonneg i
    have b1 : (i : Int) < (l.length : Int) := Int.ofNat_lt.mpr hlt
    refine Ev.step (fun k => by rw [assessorref51_Due.l0]) (ev_if_pos b1 (ev_if_pos b0 ?_))
    rw [rd49_drop l i hlt, dueOf]
    have hj : ∀ bad : Bool, bad = decide (Counts s t (rd_T49 l i)) → Ev (fun k => assessorref51_Due.j2 k l s t d (i : Int) bad) (dueOf s t (if Counts s t (rd_T49 l i) then mx d (rd_T49 l i).f1 else d) (l.drop (i + 1))) := by
      intro bad hb
      refine Ev.step (fun k => by rw [assessorref51_Due.j2, wnext hlt hl]) ?_
      by_cases hc : Counts s t (rd_T49 l i)
      · rw [decide_eq_true hc] at hb
        rw [if_pos hc]
        exact ev_if_pos hb (ev_if_pos b0 (ev_if_pos b1 (ih (i + 1) _ q1 q2)))
      · rw [decide_eq_false hc] at hb
        rw [if_neg hc]
        exact ev_if_neg (by rw [hb]; decide) (ih (i + 1) _ q1 q2)
    by_cases h1 : (rd_T49 l i).f0.toList = s.toList
    · refine ev_if_pos h1 ?_
      by_cases h2 : (rd_T49 l i).f2 ≤ t
      · refine ev_if_pos h2 ?_
        rw [rtime]
        refine ev_some_bind (hj _ ?_)
        rw [decide_eq_decide]
        exact ⟨fun h => ⟨h1, h2, h⟩, fun h => h.2.2⟩
      · exact ev_if_neg h2 (hj _ (decide_eq_false (fun h => h2 h.2.1)).symm)
    · exact ev_if_neg h1 (hj _ (decide_eq_false (fun h => h1 h.1)).symm)
theorem ev_rDue (d g : Int) (b : Bool) (ls : List S34) (l : List S49) (hl : l.length ≤ 1000) (s : ByteArray) (t : Int) :
    Ev (fun k => assessorref51_Due.f k d g b ls l s t) (if Okay d g ls ∧ IsT t then dueOf s t d l else -1) := by
  have bad : ¬ (Okay d g ls ∧ IsT t) → Ev (fun k => assessorref51_Due.j0 k l s t true d g b ls) (if Okay d g ls ∧ IsT t then dueOf s t d l else -1) := fun h => by
    rw [if_neg h]
    exact Ev.step (fun k => by rw [assessorref51_Due.j0, if_pos rfl]) (Ev.now _)
  unfold assessorref51_Due.f
  refine (ev_rvalid d g b ls).bind ?_
  by_cases h1 : Okay d g ls
  · refine ev_if_pos (decide_eq_true h1) ?_
    rw [rtime]
    refine ev_some_bind ?_
    by_cases h2 : IsT t
    · rw [decide_eq_true h2, if_pos ⟨h1, h2⟩]
      refine Ev.step (fun k => by rw [assessorref51_Due.j0]) ?_
      exact ev_if_neg (by decide) (ev_rdue_l l hl s t l.length 0 d rfl (Nat.zero_le _))
    · rw [decide_eq_false h2]
      exact bad (fun h => h2 h.2)
  · exact ev_if_neg (by rw [decide_eq_false h1]; decide) (bad (fun h => h1 h.1))

theorem ev_rLate (d g : Int) (b : Bool) (ls : List S34) (a c : Int) : Ev (fun k => assessorref51_Late.f k d g b ls a c) (lateOf d g ls a c) := by
  have bad : ¬ (Okay d g ls ∧ IsT a ∧ IsT c) → Ev (fun k => assessorref51_Late.j0 k a c true d g b ls) (lateOf d g ls a c) := fun h => by
    unfold lateOf
    rw [if_neg h]
    exact Ev.step (fun k => by rw [assessorref51_Late.j0, if_pos rfl]) (Ev.now _)
  unfold assessorref51_Late.f
  refine (ev_rvalid d g b ls).bind ?_
  by_cases h1 : Okay d g ls
  · refine ev_if_pos (decide_eq_true h1) ?_
    rw [rtime, rtime]
    refine ev_some_bind ?_
    by_cases h2 : IsT a
    · refine ev_if_pos (decide_eq_true h2) (ev_some_bind ?_)
      by_cases h3 : IsT c
      · rw [decide_eq_true h3]
        unfold lateOf
        rw [if_pos ⟨h1, h2, h3⟩]
        refine Ev.step (fun k => by rw [assessorref51_Late.j0]) (ev_if_neg (by decide) ?_)
        by_cases h4 : wrap64 (c - a) ≤ g
        · refine ev_if_pos h4 ?_; rw [if_neg (by omega)]; exact Ev.now _
        · refine ev_if_neg h4 ?_; rw [if_pos (by omega)]; exact Ev.now _
      · rw [decide_eq_false h3]
        exact bad (fun h => h3 h.2.2)
    · exact ev_if_neg (by rw [decide_eq_false h2]; decide) (bad (fun h => h2 h.2.1))
  · exact ev_if_neg (by rw [decide_eq_false h1]; decide) (bad (fun h => h1 h.1))

end Go.Proofs.Ytbehhijmcnoeeaa.Plain
