/- The factor of a late policy is from 0 to 1, is 1 for no lateness, and never rises with the lateness: the printed law answers true at every input. -/
import Derived.Test.YtbehhijmcnoeeaaPlainMain
import Derived.Test.YtbehhijmcnoeeaaXAx9
namespace Go.Proofs.Ytbehhijmcnoeeaa.Pure
open Go.RowKit Go.Proofs.Ytbehhijmcnoeeaa.XA Go.Proofs.Ytbehhijmcnoeeaa.Plain Go.Proofs.YtbehhijmcnoeeaaW.PrintWords Go.Proofs.YtbehhijmcnoeeaaW.PrintLast

theorem low11 : low 1 1 = (1, 1) := by decide
theorem low01 : low 0 1 = (0, 1) := by decide
theorem low_one : low 10000 10000 = (1, 1) := by decide

theorem DeadlinesFalls (d g : Int) (b : Bool) (ls : List S34) (a1 a2 : Int) : ∃ k, assessorlaw51_DeadlinesFalls.f k d g b ls a1 a2 = some true := by
  refine Ev.rounds (g := fun k => assessorlaw51_DeadlinesFalls.f k d g b ls a1 a2) ?_
  unfold assessorlaw51_DeadlinesFalls.f
  refine ev_awake.bind (ev_if_pos rfl ?_)
  have out : Ev (fun k => assessorlaw51_DeadlinesFalls.j0 k a1 a2 true d g b ls) true := Ev.step (fun k => by rw [assessorlaw51_DeadlinesFalls.j0, if_pos rfl]) (Ev.now _)
  by_cases hl : (ls.length : Int) > 20
  · exact ev_if_pos hl out
  refine ev_if_neg hl ?_
  by_cases hab : a1 > a2
  · rw [decide_eq_true hab]; exact out
  rw [decide_eq_false hab]
  refine Ev.step (fun k => by rw [assessorlaw51_DeadlinesFalls.j0]) (ev_if_neg (by decide) ?_)
  -- the way of bad arguments
  have wrong : ∀ x0 x1 y0 y1 : Int, (Okay d g ls → 0 ≤ a1 → a1 ≤ MT → True) → (Okay d g ls → ¬ IsT a1 → x0 = 0 ∧ x1 = 0) → Ev (fun k => assessorlaw51_DeadlinesFalls.j1 k a1 true d g b ls x0 x1 y0 y1) true := by
    intro x0 x1 y0 y1 _ hx
    refine Ev.step (fun k => by rw [assessorlaw51_DeadlinesFalls.j1]) (ev_if_pos rfl ((ev_valid d g b ls).bind ?_))
    by_cases hv : Okay d g ls
    · refine ev_if_pos (by simpa using hv) ?_
      by_cases h0 : a1 ≥ 0
      · refine ev_if_pos h0 ?_
        by_cases h1 : a1 ≤ 1099511627776
        · exact ev_if_pos h1 (Ev.now _)
        · obtain ⟨rfl, rfl⟩ := hx hv (fun h => h1 h.2)
          exact ev_if_neg h1 (Ev.now _)
      · obtain ⟨rfl, rfl⟩ := hx hv (fun h => h0 h.1)
        exact ev_if_neg h0 (Ev.now _)
    · exact ev_if_neg (by simpa using hv) (Ev.now _)
  by_cases hv : Okay d g ls
  · by_cases h1 : IsT a1
    · obtain ⟨n, hn, hf, he⟩ := ev_Factor (b := b) hv h1
      refine he.bind ?_
      by_cases h2 : IsT a2
      · obtain ⟨m, hm, hf2, he2⟩ := ev_Factor (b := b) hv h2
        refine he2.bind ((ev_valid d g b ls).bind (ev_if_pos (by simpa using hv) (ev_if_neg (by have := h1.1; omega) ?_)))
        rw [decide_eq_false (by have := h2.2; unfold MT at this; omega)]
        have hmn : m ≤ n := by have := fac_mono hv.2.2.2 hf hf2 (by omega); omega
        refine Ev.step (fun k => by rw [assessorlaw51_DeadlinesFalls.j1]) (ev_if_neg (by decide) ?_)
        refine (ev_cmp_low n 10000 m 10000 (by omega) (by omega) (by omega) (by omega) (by omega) (by omega)).bind ?_
        have c1 := ev_cmp_low n 10000 1 1 (by omega) (by omega) (by omega) (by omega) (by omega) (by omega)
        have c2 := ev_cmp_low m 10000 0 1 (by omega) (by omega) (by omega) (by omega) (by omega) (by omega)
        rw [low11] at c1
        rw [low01] at c2
        have g1 : cmp3 (n * 10000) (m * 10000) ≥ 0 := cmp_ge (by omega)
        have g2 : cmp3 (n * 1) (1 * 10000) ≤ 0 := cmp_le (by rw [Nat.mul_one, Nat.one_mul]; exact hn)
        have g3 : cmp3 (m * 1) (0 * 10000) ≥ 0 := cmp_ge (by rw [Nat.zero_mul]; exact Nat.zero_le _)
        generalize cmp3 (n * 10000) (m * 10000) = z1 at g1 ⊢
        generalize cmp3 (n * 1) (1 * 10000) = z2 at g2 c1
        generalize cmp3 (m * 1) (0 * 10000) = z3 at g3 c2
        refine c1.bind (c2.bind (ev_if_pos rfl (ev_if_pos rfl (ev_if_pos rfl (ev_if_pos g1 (ev_if_pos g2 (ev_if_pos g3 ?_)))))))
        obtain ⟨z, _, hz, hez⟩ := ev_Factor (b := b) hv (t := 0) (by decide)
        have : z = 10000 := by
          rcases hz with ⟨_, h⟩ | ⟨h, _⟩ | ⟨h, _⟩
          · omega
          · omega
          · omega
        subst this
        rw [low_one] at hez
        exact hez.bind (Ev.now _)
      · refine (ev_Factor_bad (b := b) (fun h => h2 h.2)).bind ((ev_valid d g b ls).bind (ev_if_pos (by simpa using hv) (ev_if_neg (by have := h1.1; omega) ?_)))
        rw [decide_eq_true (by have := h1.1; unfold IsT MT at h2; omega)]
        exact wrong _ _ _ _ (fun _ _ _ => trivial) (fun _ h => absurd h1 h)
    · refine (ev_Factor_bad (b := b) (fun h => h1 h.2)).bind ?_
      have hy : ∃ y0 y1 : Int, Ev (fun k => deadlines_Factor.f k d g b ls a2) (y0, y1) := by
        by_cases h2 : IsT a2
        · obtain ⟨m, _, _, he⟩ := ev_Factor (b := b) hv h2
          exact ⟨_, _, he⟩
        · exact ⟨0, 0, ev_Factor_bad (fun h => h2 h.2)⟩
      obtain ⟨y0, y1, hy⟩ := hy
      refine hy.bind ((ev_valid d g b ls).bind (ev_if_pos (by simpa using hv) ?_))
      by_cases hneg : a1 < 0
      · exact ev_if_pos hneg (wrong _ _ _ _ (fun _ _ _ => trivial) (fun _ _ => ⟨rfl, rfl⟩))
      · refine ev_if_neg hneg ?_
        rw [decide_eq_true (by unfold IsT MT at h1; omega)]
        exact wrong _ _ _ _ (fun _ _ _ => trivial) (fun _ _ => ⟨rfl, rfl⟩)
  · refine (ev_Factor_bad (b := b) (fun h => hv h.1)).bind ((ev_Factor_bad (b := b) (fun h => hv h.1)).bind ((ev_valid d g b ls).bind (ev_if_neg (by simpa using hv) ?_)))
    exact wrong _ _ _ _ (fun _ _ _ => trivial) (fun h _ => absurd h hv)

end Go.Proofs.Ytbehhijmcnoeeaa.Pure
