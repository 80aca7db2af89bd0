/- The reference's valid policies: the same plain law; conditions as written in each lemma. -/
import Derived.Test.YtbehhijmcnoeeaaPlainValid
import Derived.Test.YtbehhijmcnoeeaaXAx12
import Derived.Test.YtbehhijmcnoeeaaXAx13
namespace Go.Proofs.Ytbehhijmcnoeeaa.Plain
open Go.RowKit Go.Proofs.Ytbehhijmcnoeeaa.XA Go.Proofs.YtbehhijmcnoeeaaW.PrintWords Go.Proofs.YtbehhijmcnoeeaaW.PrintLast

theorem rtime (a : Int) : assessorref51_time.f a = some (decide (IsT a)) := istime a
theorem ev_rvalid_l (ls : List S34) (hl : ls.length ≤ 16) (d g : Int) (b : Bool) (m : Nat) : ∀ i : Nat, i ≤ ls.length → ls.length - i = m →
    Ev (fun k => assessorref51_Valid.l0 k (i : Int) d g b ls) (decide (∀ j, j < ls.length → i ≤ j → StepOk ls j)) := by
  induction m with
  | zero =>
    intro i hi hm
    have : (decide (∀ j, j < ls.length → i ≤ j → StepOk ls j)) = true := by simp; intro j hj hij; omega
    rw [this]
    exact Ev.step (f := fun _ => some true) (fun k => by rw [assessorref51_Valid.l0, if_neg (by omega)]) (Ev.now _)
  | succ m ih =>
    intro i hi hm
    have hlt : i < ls.length := by omega
    refine Ev.step (fun k => by rw [assessorref51_Valid.l0]) (ev_if_pos (by omega) (ev_if_pos (by omega) ?_))
    have hall : (decide (∀ j, j < ls.length → i ≤ j → StepOk ls j)) = (decide (StepOk ls i) && decide (∀ j, j < ls.length → i + 1 ≤ j → StepOk ls j)) := by
      rw [Bool.eq_iff_iff]
      simp only [decide_eq_true_eq, Bool.and_eq_true]
      constructor
      · exact fun h => ⟨h i hlt (Nat.le_refl _), fun j hj hij => h j hj (by omega)⟩
      · rintro ⟨h1, h2⟩ j hj hij
        rcases Nat.eq_or_lt_of_le hij with rfl | h
        · exact h1
        · exact h2 j hj h
    have next := ih (i + 1) (by omega) (by omega)
    rw [hall]
    have fin : ∀ bad : Bool, bad = !decide (StepOk ls i) → Ev (fun k => assessorref51_Valid.j2 k i bad d g b ls) (decide (StepOk ls i) && decide (∀ j, j < ls.length → i + 1 ≤ j → StepOk ls j)) := by
      intro bad hb
      refine Ev.step (fun k => by rw [assessorref51_Valid.j2, show wrap64 ((i : Int) + 1) = ((i + 1 : Nat) : Int) from by rw [w64 (by omega)]; omega]) ?_
      by_cases hs : StepOk ls i
      · rw [decide_eq_true hs] at hb ⊢
        rw [Bool.true_and]
        exact ev_if_neg (by rw [hb]; decide) next
      · rw [decide_eq_false hs] at hb ⊢
        exact ev_if_pos hb (Ev.now _)
    rw [rtime]
    refine ev_some_bind ?_
    by_cases h1 : IsT (rd_T34 ls i).f0
    · refine ev_if_pos (decide_eq_true h1) ?_
      by_cases h2 : (rd_T34 ls i).f1 < 0
      · refine ev_if_pos h2 (fin _ ?_)
        rw [decide_eq_false (fun h => by have := h.2.1.1; omega)]; rfl
      refine ev_if_neg h2 ?_
      by_cases h3 : (rd_T34 ls i).f1 > 100
      · refine ev_if_pos h3 (fin _ ?_)
        rw [decide_eq_false (fun h => by have := h.2.1.2; omega)]; rfl
      refine ev_if_neg h3 ?_
      have hp : IsP (rd_T34 ls i).f1 := ⟨by omega, by omega⟩
      by_cases h0 : (i : Int) > 0
      · refine ev_if_pos h0 ?_
        rw [show wrap64 ((i : Int) - 1) = ((i - 1 : Nat) : Int) from by rw [w64 (by omega)]; omega]
        refine ev_if_pos (by omega) (ev_if_pos (by omega) ?_)
        by_cases h4 : (rd_T34 ls ((i - 1 : Nat) : Int)).f0 ≥ (rd_T34 ls i).f0
        · refine ev_if_pos h4 (fin _ ?_)
          rw [decide_eq_false (fun h => by have := (h.2.2 (by omega)).1; omega)]; rfl
        · refine ev_if_neg h4 (fin _ ?_)
          by_cases h5 : (rd_T34 ls ((i - 1 : Nat) : Int)).f1 < (rd_T34 ls i).f1
          · rw [decide_eq_true h5, decide_eq_false (fun h => by have := (h.2.2 (by omega)).2; omega)]; rfl
          · rw [decide_eq_false h5, decide_eq_true (show StepOk ls i from ⟨h1, hp, fun _ => ⟨by omega, by omega⟩⟩)]; rfl
      · refine ev_if_neg h0 (fin _ ?_)
        rw [decide_eq_true (show StepOk ls i from ⟨h1, hp, fun h => absurd h (by omega)⟩)]; rfl
    · refine ev_if_neg (by rw [decide_eq_false h1]; decide) (fin _ ?_)
      rw [decide_eq_false (fun h => h1 h.1)]; rfl

theorem ev_rvalid (d g : Int) (b : Bool) (ls : List S34) : Ev (fun k => assessorref51_Valid.f k d g b ls) (decide (Okay d g ls)) := by
  unfold assessorref51_Valid.f
  have bad : ¬ Okay d g ls → Ev (fun k => assessorref51_Valid.j0 k true d g b ls) (decide (Okay d g ls)) := fun h => by
    rw [decide_eq_false h]
    exact Ev.step (f := fun _ => some false) (fun k => by rw [assessorref51_Valid.j0, if_pos rfl]) (Ev.now _)
  rw [rtime, rtime]
  refine ev_some_bind ?_
  by_cases h1 : IsT d
  · refine ev_if_pos (decide_eq_true h1) (ev_some_bind ?_)
    by_cases h2 : IsT g
    · refine ev_if_pos (decide_eq_true h2) ?_
      by_cases h3 : ls.length ≤ 16
      · have e : decide ((ls.length : Int) > 16) = false := by simp; omega
        rw [e]
        refine Ev.step (fun k => by rw [assessorref51_Valid.j0]) (ev_if_neg (by decide) ?_)
        have h := ev_rvalid_l ls h3 d g b ls.length 0 (Nat.zero_le _) (by omega)
        have e2 : decide (∀ j, j < ls.length → 0 ≤ j → StepOk ls j) = decide (Okay d g ls) := by
          rw [Bool.eq_iff_iff]
          simp only [decide_eq_true_eq]
          exact ⟨fun h => ⟨h1, h2, h3, fun i hi => h i hi (Nat.zero_le _)⟩, fun h j hj _ => h.2.2.2 j hj⟩
        rw [e2] at h
        exact h
      · have e : decide ((ls.length : Int) > 16) = true := by simp; omega
        rw [e]
        exact bad (fun h => h3 h.2.2.1)
    · exact ev_if_neg (by rw [decide_eq_false h2]; decide) (bad (fun h => h2 h.2.1))
  · exact ev_if_neg (by rw [decide_eq_false h1]; decide) (bad (fun h => h1 h.1))

end Go.Proofs.Ytbehhijmcnoeeaa.Plain
