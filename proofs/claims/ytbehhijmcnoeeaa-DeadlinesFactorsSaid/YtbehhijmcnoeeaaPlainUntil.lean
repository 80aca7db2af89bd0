/- The greatest lateness whose factor is at least a percentage, by halving; conditions as written in each lemma. -/
import Derived.Test.YtbehhijmcnoeeaaPlainMain
import Derived.Test.YtbehhijmcnoeeaaXAx15
namespace Go.Proofs.Ytbehhijmcnoeeaa.Plain
open Go.RowKit Go.Proofs.Ytbehhijmcnoeeaa.XA Go.Proofs.YtbehhijmcnoeeaaW.PrintWords Go.Proofs.YtbehhijmcnoeeaaW.PrintLast

theorem ev_enough {d g : Int} {b : Bool} {ls : List S34} (h : Okay d g ls) (p : Int) {t : Int} (ht : IsT t) :
    ∃ v, Fac b ls t v ∧ Ev (fun k => deadlines_Until.enough k d g b ls p t) (decide (100 * p ≤ v)) := by
  obtain ⟨v, hv, hf⟩ := fac_ev h.2.2.2 h.2.2.1 ht d g b
  refine ⟨v, hf, ?_⟩
  unfold deadlines_Until.enough
  exact hv.bind (Ev.now _)

/-- Up to t the factor is at least p percent, behind it less. -/
def Last (b : Bool) (ls : List S34) (p t : Int) : Prop := 0 ≤ t ∧ t + 1 ≤ MT ∧ (∀ v, Fac b ls t v → 100 * p ≤ v) ∧ (∀ v, Fac b ls (t + 1) v → v < 100 * p)
theorem ev_until_l {d g : Int} {b : Bool} {ls : List S34} (h : Okay d g ls) (p : Int) (n : Nat) : ∀ low high : Int, (high - low).toNat = n → 0 ≤ low → low < high → high ≤ MT →
    (∀ v, Fac b ls low v → 100 * p ≤ v) → (∀ v, Fac b ls high v → v < 100 * p) → ∃ t, Last b ls p t ∧ Ev (fun k => deadlines_Until.l0 k d g b ls p low high) (t, true) := by
  induction n using Nat.strongRecOn with
  | _ n ih =>
    intro low high hn h0 hlt h1 hlow hhigh
    by_cases hs : high - low > 1
    · have ht : IsT ((low + high) / 2) := by unfold IsT; omega
      obtain ⟨v, hf, he⟩ := ev_enough (b := b) h p ht
      by_cases hv : 100 * p ≤ v
      · obtain ⟨t, hl, hev⟩ := ih ((high - (low + high) / 2).toNat) (by omega) ((low + high) / 2) high rfl (by omega) (by omega) h1 (fun v' hv' => by have := fac_one h.2.2.2 hf hv'; omega) hhigh
        refine ⟨t, hl, Ev.step (fun k => by rw [deadlines_Until.l0]) (ev_if_pos hs (he.bind ?_))⟩
        exact ev_if_pos (decide_eq_true hv) hev
      · obtain ⟨t, hl, hev⟩ := ih (((low + high) / 2 - low).toNat) (by omega) low ((low + high) / 2) rfl h0 (by omega) (by omega) hlow (fun v' hv' => by have := fac_one h.2.2.2 hf hv'; omega)
        refine ⟨t, hl, Ev.step (fun k => by rw [deadlines_Until.l0]) (ev_if_pos hs (he.bind ?_))⟩
        exact ev_if_neg (by rw [decide_eq_false hv]; decide) hev
    · have e : high = low + 1 := by omega
      subst e
      exact ⟨low, ⟨h0, h1, hlow, hhigh⟩, Ev.step (fun k => by rw [deadlines_Until.l0, if_neg hs]) (Ev.now _)⟩

/-- What Until returns. -/
theorem ev_Until (d g : Int) (b : Bool) (ls : List S34) (p : Int) : ∃ t ok, Ev (fun k => deadlines_Until.f k d g b ls p) (t, ok) ∧
    ((¬ (Okay d g ls ∧ IsP p) ∧ t = 0 ∧ ok = false) ∨ (Okay d g ls ∧ IsP p ∧ t = 0 ∧ ok = false ∧ ∀ v, Fac b ls MT v → 100 * p ≤ v) ∨ (Okay d g ls ∧ IsP p ∧ ok = true ∧ Last b ls p t)) := by
  by_cases h1 : Okay d g ls
  · by_cases h2 : IsP p
    · obtain ⟨v, hf, he⟩ := ev_enough (b := b) h1 p (t := MT) (by unfold IsT MT; omega)
      by_cases h3 : 100 * p ≤ v
      · refine ⟨0, false, ?_, .inr (.inl ⟨h1, h2, rfl, rfl, fun v' hv' => by have := fac_one h1.2.2.2 hf hv'; omega⟩)⟩
        unfold deadlines_Until.f
        refine (ev_valid d g b ls).bind (ev_if_pos (decide_eq_true h1) ?_)
        rw [ispercent]
        refine ev_some_bind (ev_if_pos (decide_eq_true h2) (he.bind (ev_if_pos (decide_eq_true h3) (Ev.now _))))
      · obtain ⟨t, hl, hev⟩ := ev_until_l (b := b) h1 p _ 0 MT rfl (Int.le_refl _) (by decide) (Int.le_refl _) (fun v' hv' => by
            have hp := h2.2
            rcases hv' with ⟨_, h⟩ | ⟨h, _⟩ | ⟨h, _⟩ <;> omega) (fun v' hv' => by have := fac_one h1.2.2.2 hf hv'; omega)
        refine ⟨t, true, ?_, .inr (.inr ⟨h1, h2, rfl, hl⟩)⟩
        unfold deadlines_Until.f
        refine (ev_valid d g b ls).bind (ev_if_pos (decide_eq_true h1) ?_)
        rw [ispercent]
        refine ev_some_bind (ev_if_pos (decide_eq_true h2) (he.bind ?_))
        exact ev_if_neg (by rw [decide_eq_false h3]; decide) hev
    · refine ⟨0, false, ?_, .inl ⟨fun h => h2 h.2, rfl, rfl⟩⟩
      unfold deadlines_Until.f
      refine (ev_valid d g b ls).bind (ev_if_pos (decide_eq_true h1) ?_)
      rw [ispercent]
      exact ev_some_bind (ev_if_neg (by rw [decide_eq_false h2]; decide) (Ev.now _))
  · refine ⟨0, false, ?_, .inl ⟨fun h => h1 h.1, rfl, rfl⟩⟩
    unfold deadlines_Until.f
    exact (ev_valid d g b ls).bind (ev_if_neg (by rw [decide_eq_false h1]; decide) (Ev.now _))

end Go.Proofs.Ytbehhijmcnoeeaa.Plain
