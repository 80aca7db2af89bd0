/- An extension never lets an exercise be due earlier; a submission at the new time is not late; adding a number to all times does not change the lateness: the printed law answers true at every input. -/
import Derived.Test.YtbehhijmcnoeeaaPlainDue
import Derived.Test.YtbehhijmcnoeeaaXAx22
import Derived.Test.YtbehhijmcnoeeaaXAx23
namespace Go.Proofs.Ytbehhijmcnoeeaa.Pure
open Go.RowKit Go.Proofs.Ytbehhijmcnoeeaa.XA Go.Proofs.Ytbehhijmcnoeeaa.Plain Go.Proofs.YtbehhijmcnoeeaaW.PrintWords Go.Proofs.YtbehhijmcnoeeaaW.PrintLast

theorem ext_j3 (d g : Int) (b : Bool) (ls : List S34) (a t by' : Int) (bad : Bool) (ha : IsT a) (ht : IsT t) (hb : bad = false → 0 ≤ by' ∧ by' ≤ MT ∧ t ≤ MT - by' ∧ a ≤ MT - by') :
    Ev (fun k => assessorlaw51_DeadlinesExtends.j3 k t by' a bad d g b ls) true := by
  refine Ev.step (fun k => by rw [assessorlaw51_DeadlinesExtends.j3]) ?_
  cases bad with
  | true => exact ev_if_pos rfl (Ev.now _)
  | false =>
    refine ev_if_neg (by decide) ?_
    obtain ⟨h1, h2, h3, h4⟩ := hb rfl
    have ha' := ha
    have ht' := ht
    unfold IsT at ha' ht'
    unfold MT at *
    rw [w64 (n := a + by') (by omega), w64 (n := t + by') (by omega)]
    have e : lateOf d g ls (a + by') (t + by') = lateOf d g ls a t := by
      unfold lateOf
      have e1 : IsT (a + by') := by unfold IsT MT; omega
      have e2 : IsT (t + by') := by unfold IsT MT; omega
      have e3 : t + by' - (a + by') = t - a := by omega
      simp only [e1, e2, e3, ha, ht]
    refine (ev_Late d g b ls a t).bind ((ev_Late d g b ls (a + by') (t + by')).bind ?_)
    rw [e, beq_self_eq_true]
    exact Ev.now _

theorem ext_j2 (d g : Int) (b : Bool) (ls : List S34) (a t by' : Int) (ha : IsT a) (ht : IsT t) :
    Ev (fun k => assessorlaw51_DeadlinesExtends.j2 k t by' a false d g b ls) true := by
  have bad := ext_j3 d g b ls a t by' true ha ht (fun h => by cases h)
  refine Ev.step (fun k => by rw [assessorlaw51_DeadlinesExtends.j2]) (ev_if_neg (by decide) ?_)
  by_cases h1 : by' < 0
  · exact ev_if_pos h1 bad
  refine ev_if_neg h1 ?_
  by_cases h2 : by' > 1099511627776
  · exact ev_if_pos h2 bad
  refine ev_if_neg h2 ?_
  rw [w64 (n := 1099511627776 - by') (by omega)]
  by_cases h3 : t > 1099511627776 - by'
  · exact ev_if_pos h3 bad
  refine ev_if_neg h3 ?_
  refine ext_j3 d g b ls a t by' _ ha ht (fun h => ?_)
  have h4 : ¬ a > 1099511627776 - by' := of_decide_eq_false h
  unfold MT
  omega

theorem ext_j1 (d g : Int) (b : Bool) (ls : List S34) (s : ByteArray) (t by' a c : Int) (x0 : ByteArray) (x1 x2 : Int) (hk : Okay d g ls) (ha : IsT a) (hc : IsT c) (ht : IsT t)
    (hx : x0.toList = s.toList → x2 ≤ t → IsT x1 → x1 ≤ c) :
    Ev (fun k => assessorlaw51_DeadlinesExtends.j1 k s t by' a c false d g b ls x0 x1 x2) true := by
  have hz : lateOf d g ls c c = 0 := by
    unfold lateOf
    rw [if_pos ⟨hk, hc, hc⟩, Int.sub_self, w64 (n := 0) (by omega), if_neg (by have := hk.2.1.1; omega)]
  have last : Ev (fun k => (deadlines_Late.f k d g b ls c c).bind fun z => assessorlaw51_DeadlinesExtends.j2 k t by' a (z != 0) d g b ls) true := by
    have h := ev_Late d g b ls c c
    rw [hz] at h
    exact h.bind (ext_j2 d g b ls a t by' ha ht)
  refine Ev.step (fun k => by rw [assessorlaw51_DeadlinesExtends.j1]) (ev_if_neg (by decide) ?_)
  by_cases h1 : x0.toList = s.toList
  · refine ev_if_pos h1 ?_
    by_cases h2 : x2 ≤ t
    · refine ev_if_pos h2 ?_
      by_cases h3 : x1 ≥ 0
      · refine ev_if_pos h3 ?_
        by_cases h4 : x1 ≤ 1099511627776
        · refine ev_if_pos h4 (ev_if_neg ?_ last)
          have := hx h1 h2 ⟨h3, h4⟩
          omega
        · exact ev_if_neg h4 last
      · exact ev_if_neg h3 last
    · exact ev_if_neg h2 last
  · exact ev_if_neg h1 last

theorem DeadlinesExtends (d g : Int) (b : Bool) (ls : List S34) (l : List S49) (x0 : ByteArray) (x1 x2 : Int) (s : ByteArray) (t by' : Int) (hm : l.length ≤ maxLen) :
    ∃ k, assessorlaw51_DeadlinesExtends.f k d g b ls l x0 x1 x2 s t by' = some true := by
  refine Ev.rounds (g := fun k => assessorlaw51_DeadlinesExtends.f k d g b ls l x0 x1 x2 s t by') ?_
  unfold assessorlaw51_DeadlinesExtends.f
  refine ev_awake.bind (ev_if_pos rfl ?_)
  have out : Ev (fun k => assessorlaw51_DeadlinesExtends.j0 k l s t by' true d g b ls x0 x1 x2) true := Ev.step (fun k => by rw [assessorlaw51_DeadlinesExtends.j0, if_pos rfl]) (Ev.now _)
  obtain ⟨r, hr, he⟩ := ev_few d g b ls l (by unfold maxLen at hm; omega) s
  refine he.bind ?_
  cases r with
  | false => exact ev_if_neg (by decide) out
  | true =>
    have hl := (hr rfl).2
    refine ev_if_pos rfl ?_
    by_cases h1 : (x0.size : Int) > 40
    · exact ev_if_pos h1 out
    refine ev_if_neg h1 ((ev_valid d g b ls).bind ?_)
    by_cases hk : Okay d g ls
    · refine ev_if_pos (decide_eq_true hk) ?_
      by_cases h2 : t < 0
      · exact ev_if_pos h2 out
      refine ev_if_neg h2 ?_
      by_cases h3 : t > 1099511627776
      · rw [decide_eq_true h3]; exact out
      rw [decide_eq_false h3]
      have ht : IsT t := by unfold IsT MT; omega
      refine Ev.step (fun k => by rw [assessorlaw51_DeadlinesExtends.j0]) (ev_if_neg (by decide) ?_)
      have e1 := ev_Due d g b ls l (by omega) s t
      have e2 := ev_Due d g b ls (l ++ [⟨x0, x1, x2⟩]) (by simp; omega) s t
      rw [if_pos ⟨hk, ht⟩] at e1 e2
      rw [dueOf_append] at e2
      have hge := dueOf_ge s t l d
      have hat := dueOf_t s t l d hk.1
      generalize dueOf s t d l = a at e1 e2 hge hat
      refine e1.bind ?_
      have e0 : Ev (fun k => api_Extension.f l) l := by
        unfold api_Extension.f
        exact ev_if_pos (by omega) (Ev.now _)
      refine e0.bind (ev_some_bind (ev_if_pos (by simp; omega) (e2.bind (ev_if_neg (by omega) ?_))))
      have hc : IsT (if Counts s t ⟨x0, x1, x2⟩ then mx a x1 else a) := by
        split
        · rename_i h; exact mx_t hat h.2.2
        · exact hat
      have hac : a ≤ (if Counts s t ⟨x0, x1, x2⟩ then mx a x1 else a) := by
        split
        · exact (mx_ge a x1).1
        · exact Int.le_refl _
      have hx : x0.toList = s.toList → x2 ≤ t → IsT x1 → x1 ≤ (if Counts s t ⟨x0, x1, x2⟩ then mx a x1 else a) := fun a1 a2 a3 => by
        rw [if_pos (show Counts s t ⟨x0, x1, x2⟩ from ⟨a1, a2, a3⟩)]
        exact (mx_ge a x1).2
      have hsame : ¬ (x0.toList = s.toList ∧ x2 ≤ t) → (if Counts s t ⟨x0, x1, x2⟩ then mx a x1 else a) = a := fun h => if_neg (fun h' => h ⟨h'.1, h'.2.1⟩)
      generalize (if Counts s t ⟨x0, x1, x2⟩ then mx a x1 else a) = c at hc hac hx hsame
      refine ev_if_neg (by omega) ?_
      have go := ext_j1 d g b ls s t by' a c x0 x1 x2 hk hat hc ht hx
      by_cases h4 : x0.toList = s.toList
      · refine ev_if_pos h4 ?_
        by_cases h5 : x2 > t
        · refine ev_if_pos h5 ?_
          rw [hsame (fun h => by omega), bne_self_eq_false]
          rw [hsame (fun h => by omega)] at go
          exact go
        · exact ev_if_neg h5 go
      · refine ev_if_neg h4 ?_
        rw [hsame (fun h => h4 h.1), bne_self_eq_false]
        rw [hsame (fun h => h4 h.1)] at go
        exact go
    · exact ev_if_neg (by rw [decide_eq_false hk]; decide) out

end Go.Proofs.Ytbehhijmcnoeeaa.Pure
