/- When a policy is valid, as the program and as the reference tell it: one and the same; no conditions. -/
import Derived.Test.YtbehhijmcnoeeaaPlainFrac
import Derived.Test.YtbehhijmcnoeeaaXAx3
namespace Go.Proofs.Ytbehhijmcnoeeaa.Plain
open Go.RowKit Go.Proofs.Ytbehhijmcnoeeaa.XA Go.Proofs.YtbehhijmcnoeeaaW.PrintWords Go.Proofs.YtbehhijmcnoeeaaW.PrintLast

/-- The greatest tick. -/
abbrev MT : Int := 1099511627776
def IsT (a : Int) : Prop := 0 ≤ a ∧ a ≤ MT
def IsP (a : Int) : Prop := 0 ≤ a ∧ a ≤ 100
instance (a : Int) : Decidable (IsT a) := inferInstanceAs (Decidable (_ ∧ _))
instance (a : Int) : Decidable (IsP a) := inferInstanceAs (Decidable (_ ∧ _))
/-- Step i is right. -/
def StepOk (ls : List S34) (i : Nat) : Prop := IsT (rd_T34 ls i).f0 ∧ IsP (rd_T34 ls i).f1 ∧ (0 < i → (rd_T34 ls ((i - 1 : Nat) : Int)).f0 < (rd_T34 ls i).f0 ∧ (rd_T34 ls i).f1 ≤ (rd_T34 ls ((i - 1 : Nat) : Int)).f1)
instance (ls : List S34) (i : Nat) : Decidable (StepOk ls i) := inferInstanceAs (Decidable (_ ∧ _))
def Okay (d g : Int) (ls : List S34) : Prop := IsT d ∧ IsT g ∧ ls.length ≤ 16 ∧ ∀ i, i < ls.length → StepOk ls i

theorem istime (a : Int) : deadlines_isTime.f a = some (decide (IsT a)) := by
  unfold deadlines_isTime.f
  by_cases h : a ≥ 0
  · rw [if_pos h, Option.some.injEq, Bool.eq_iff_iff, decide_eq_true_eq, decide_eq_true_eq]; unfold IsT MT; omega
  · rw [if_neg h, Option.some.injEq, Bool.eq_iff_iff, decide_eq_true_eq]; unfold IsT MT; constructor <;> intro h' <;> first | (cases h'; done) | omega
theorem ispercent (a : Int) : deadlines_isPercent.f a = some (decide (IsP a)) := by
  unfold deadlines_isPercent.f
  by_cases h : a ≥ 0
  · rw [if_pos h, Option.some.injEq, Bool.eq_iff_iff, decide_eq_true_eq, decide_eq_true_eq]; unfold IsP; omega
  · rw [if_neg h, Option.some.injEq, Bool.eq_iff_iff, decide_eq_true_eq]; unfold IsP; constructor <;> intro h' <;> first | (cases h'; done) | omega

theorem ev_valid_j2 (ls : List S34) (i : Nat) (n : Int) (d g : Int) (b bad r : Bool) (hi : (i : Int) ≤ n) (hn : n ≤ 16) (h : bad = true → r = false) (k : bad = false → Ev (fun k => deadlines_Valid.l0 k ls n ((i + 1 : Nat) : Int) d g b ls) r) :
    Ev (fun k => deadlines_Valid.j2 k ls n i bad d g b ls) r := by
  refine Ev.step (fun k => by rw [deadlines_Valid.j2]) ?_
  cases bad with
  | true => rw [h rfl]; exact ev_if_pos rfl (Ev.now _)
  | false =>
    refine ev_if_neg (by decide) ?_
    rw [w64 (by omega)]
    exact k rfl

theorem ev_valid_l (ls : List S34) (hl : ls.length ≤ 16) (d g : Int) (b : Bool) (m : Nat) : ∀ i : Nat, i ≤ ls.length → ls.length - i = m →
    Ev (fun k => deadlines_Valid.l0 k ls (ls.length : Int) (i : Int) d g b ls) (decide (∀ j, j < ls.length → i ≤ j → StepOk ls j)) := by
  induction m with
  | zero =>
    intro i hi hm
    have : (decide (∀ j, j < ls.length → i ≤ j → StepOk ls j)) = true := by simp; intro j hj hij; omega
    rw [this]
    exact Ev.step (f := fun _ => some true) (fun k => by rw [deadlines_Valid.l0, if_neg (by omega)]) (Ev.now _)
  | succ m ih =>
    intro i hi hm
    have hlt : i < ls.length := by omega
    refine Ev.step (fun k => by rw [deadlines_Valid.l0]) ?_
    refine ev_if_pos (by omega) (ev_if_pos (by omega) (ev_if_pos (by omega) ?_))
    have hall : (decide (∀ j, j < ls.length → i ≤ j → StepOk ls j)) = (decide (StepOk ls i) && decide (∀ j, j < ls.length → i + 1 ≤ j → StepOk ls j)) := by
      rw [Bool.eq_iff_iff]
      simp only [decide_eq_true_eq, Bool.and_eq_true]
      constructor
      · exact fun h => ⟨h i hlt (Nat.le_refl _), fun j hj hij => h j hj (by omega)⟩
      · rintro ⟨h1, h2⟩ j hj hij
        rcases Nat.eq_or_lt_of_le hij with rfl | h
        · exact h1
        · exact h2 j hj h
    have next := ih (i + 1) (by omega) (by omega)
    rw [hall]
    have fin : ∀ bad : Bool, bad = !decide (StepOk ls i) → Ev (fun k => deadlines_Valid.j2 k ls (ls.length : Int) i bad d g b ls) (decide (StepOk ls i) && decide (∀ j, j < ls.length → i + 1 ≤ j → StepOk ls j)) := by
      intro bad hb
      refine ev_valid_j2 ls i _ d g b bad _ (by omega) (by omega) (fun h => ?_) (fun h => ?_)
      · rw [hb] at h; simp at h; simp [h]
      · rw [hb] at h; simp at h; simp only [h, decide_true, Bool.true_and]; exact next
    rw [istime]
    refine ev_some_bind ?_
    by_cases h1 : IsT (rd_T34 ls i).f0
    · refine ev_if_pos (by simpa using h1) ?_
      rw [ispercent]
      refine ev_some_bind ?_
      by_cases h2 : IsP (rd_T34 ls i).f1
      · refine ev_if_pos (by simpa using h2) ?_
        by_cases h0 : 0 < i
        · refine ev_if_pos (by omega) ?_
          have hw : wrap64 ((i : Int) - 1) = ((i - 1 : Nat) : Int) := by rw [w64 (by omega)]; omega
          rw [hw]
          refine ev_if_pos (by omega) (ev_if_pos (by omega) ?_)
          by_cases h3 : (rd_T34 ls i).f0 ≤ (rd_T34 ls ((i - 1 : Nat) : Int)).f0
          · refine ev_if_pos h3 (fin _ ?_)
            have : ¬ StepOk ls i := fun h => by have := (h.2.2 h0).1; omega
            simp [this]
          · refine ev_if_neg h3 (fin _ ?_)
            rw [Bool.eq_iff_iff]
            simp only [decide_eq_true_eq, Bool.not_eq_true', decide_eq_false_iff_not]
            constructor
            · exact fun h hs => by have := (hs.2.2 h0).2; omega
            · exact fun h => by
                by_cases h4 : (rd_T34 ls i).f1 ≤ (rd_T34 ls ((i - 1 : Nat) : Int)).f1
                · exact absurd ⟨h1, h2, fun _ => ⟨by omega, h4⟩⟩ h
                · omega
        · refine ev_if_neg (by omega) (fin _ ?_)
          have : StepOk ls i := ⟨h1, h2, fun h => absurd h h0⟩
          simp [this]
      · refine ev_if_neg (by simpa using h2) (fin _ ?_)
        have : ¬ StepOk ls i := fun h => h2 h.2.1
        simp [this]
    · refine ev_if_neg (by simpa using h1) (fin _ ?_)
      have : ¬ StepOk ls i := fun h => h1 h.1
      simp [this]

instance (d g : Int) (ls : List S34) : Decidable (Okay d g ls) := inferInstanceAs (Decidable (_ ∧ _))

theorem ev_valid (d g : Int) (b : Bool) (ls : List S34) : Ev (fun k => deadlines_Valid.f k d g b ls) (decide (Okay d g ls)) := by
  unfold deadlines_Valid.f
  have bad : ¬ Okay d g ls → Ev (fun k => deadlines_Valid.j0 k true d g b ls) (decide (Okay d g ls)) := fun h => by
    rw [decide_eq_false h]
    exact Ev.step (f := fun _ => some false) (fun k => by rw [deadlines_Valid.j0, if_pos rfl]) (Ev.now _)
  rw [istime, istime]
  refine ev_some_bind ?_
  by_cases h1 : IsT d
  · refine ev_if_pos (by simpa using h1) (ev_some_bind ?_)
    by_cases h2 : IsT g
    · refine ev_if_pos (by simpa using h2) ?_
      by_cases h3 : ls.length ≤ 16
      · have e : decide ((ls.length : Int) > 16) = false := by simp; omega
        rw [e]
        refine Ev.step (fun k => by rw [deadlines_Valid.j0]) (ev_if_neg (by decide) ?_)
        have h := ev_valid_l ls h3 d g b ls.length 0 (Nat.zero_le _) (by omega)
        have e2 : decide (∀ j, j < ls.length → 0 ≤ j → StepOk ls j) = decide (Okay d g ls) := by
          rw [Bool.eq_iff_iff]
          simp only [decide_eq_true_eq]
          exact ⟨fun h => ⟨h1, h2, h3, fun i hi => h i hi (Nat.zero_le _)⟩, fun h j hj _ => h.2.2.2 j hj⟩
        rw [e2] at h
        exact h
      · have e : decide ((ls.length : Int) > 16) = true := by simp; omega
        rw [e]
        exact bad (fun h => h3 h.2.2.1)
    · exact ev_if_neg (by simpa using h2) (bad (fun h => h2 h.2.1))
  · exact ev_if_neg (by simpa using h1) (bad (fun h => h1 h.1))

end Go.Proofs.Ytbehhijmcnoeeaa.Plain
