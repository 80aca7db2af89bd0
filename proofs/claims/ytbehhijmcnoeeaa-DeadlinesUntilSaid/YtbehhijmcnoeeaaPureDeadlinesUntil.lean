/- The lateness that Until returns has a factor of at least the percentage, and the next one less: the printed law answers true at every input. -/
import Derived.Test.YtbehhijmcnoeeaaPlainUntil
import Derived.Test.YtbehhijmcnoeeaaXAx21
namespace Go.Proofs.Ytbehhijmcnoeeaa.Pure
open Go.RowKit Go.Proofs.Ytbehhijmcnoeeaa.XA Go.Proofs.Ytbehhijmcnoeeaa.Plain Go.Proofs.YtbehhijmcnoeeaaW.PrintWords Go.Proofs.YtbehhijmcnoeeaaW.PrintLast

theorem DeadlinesUntil (d g : Int) (b : Bool) (ls : List S34) (p o : Int) : ∃ k, assessorlaw51_DeadlinesUntil.f k d g b ls p o = some true := by
  refine Ev.rounds (g := fun k => assessorlaw51_DeadlinesUntil.f k d g b ls p o) ?_
  unfold assessorlaw51_DeadlinesUntil.f
  refine ev_awake.bind (ev_if_pos rfl ?_)
  by_cases hl : (ls.length : Int) > 20
  · exact ev_if_pos hl (Ev.now _)
  refine ev_if_neg hl ?_
  obtain ⟨t, ok, hu, hc⟩ := ev_Until d g b ls p
  refine hu.bind ((ev_valid d g b ls).bind ?_)
  have wrong : t = 0 → ok = false → Ev (fun k => assessorlaw51_DeadlinesUntil.j0 k p o t ok true d g b ls) true := by
    rintro rfl rfl
    refine Ev.step (fun k => by rw [assessorlaw51_DeadlinesUntil.j0]) ?_
    exact ev_if_pos rfl (ev_if_neg (by decide) (Ev.now _))
  have good : ∀ hp : IsP p, Okay d g ls → (t = 0 ∧ ok = false ∧ (∀ v, Fac b ls MT v → 100 * p ≤ v)) ∨ (ok = true ∧ Last b ls p t) → Ev (fun k => assessorlaw51_DeadlinesUntil.j0 k p o t ok false d g b ls) true := by
    intro hp hk hcase
    obtain ⟨q, rfl⟩ := Int.eq_ofNat_of_zero_le hp.1
    have hq : q ≤ 100 := by have := hp.2; omega
    refine Ev.step (fun k => by rw [assessorlaw51_DeadlinesUntil.j0]) (ev_if_neg (by decide) ?_)
    have hm := ev_make46 q 100 (by omega) (by decide) (by decide)
    refine hm.bind (ev_if_pos rfl ?_)
    rcases hcase with ⟨rfl, rfl, hall⟩ | ⟨rfl, hlast⟩
    · refine ev_if_neg (by omega) ?_
      refine Ev.step (fun k => by rw [assessorlaw51_DeadlinesUntil.j1]) (ev_if_neg (by decide) (ev_if_neg (by decide) ?_))
      have ho : IsT (mn (mx o 0) 1099511627776) := by unfold IsT MT mn mx; split <;> split <;> omega
      generalize mn (mx o 0) 1099511627776 = z at ho
      obtain ⟨n, hn, hf, he⟩ := ev_Factor (b := b) hk ho
      refine he.bind ((ev_cmp_low n 10000 q 100 (by omega) (by omega) (by omega) (by omega) (by omega) (by omega)).bind (ev_if_pos rfl (ev_if_pos rfl ?_)))
      obtain ⟨v, _, hv⟩ := fac_ev hk.2.2.2 hk.2.2.1 (t := MT) (by unfold IsT MT; omega) d g b
      have h1 := hall v hv
      have h2 := fac_mono hk.2.2.2 hf hv ho.2
      rw [decide_eq_true (cmp_ge (by omega) : cmp3 (n * 100) (q * 10000) ≥ 0)]
      exact Ev.now _
    · obtain ⟨h0, h1, h2, h3⟩ := hlast
      have h1' := h1
      unfold MT at h1'
      refine ev_if_neg (by omega) ?_
      rw [decide_eq_false (by omega)]
      refine Ev.step (fun k => by rw [assessorlaw51_DeadlinesUntil.j1]) (ev_if_neg (by decide) (ev_if_pos rfl ?_))
      rw [w64 (n := t + 1) (by omega)]
      obtain ⟨n, hn, hf, he⟩ := ev_Factor (b := b) hk (t := t) (by unfold IsT; omega)
      obtain ⟨m, hm, hf2, he2⟩ := ev_Factor (b := b) hk (t := t + 1) (by unfold IsT; omega)
      refine he.bind ((ev_cmp_low n 10000 q 100 (by omega) (by omega) (by omega) (by omega) (by omega) (by omega)).bind ?_)
      refine he2.bind ((ev_cmp_low m 10000 q 100 (by omega) (by omega) (by omega) (by omega) (by omega) (by omega)).bind ?_)
      have a1 := h2 n hf
      have a2 := h3 m hf2
      refine ev_if_pos rfl (ev_if_pos rfl (ev_if_pos (cmp_ge (by omega)) ?_))
      rw [decide_eq_true (cmp_lt (by omega) : cmp3 (m * 100) (q * 10000) < 0)]
      exact Ev.now _
  by_cases hk : Okay d g ls
  · refine ev_if_pos (decide_eq_true hk) ?_
    by_cases hp : IsP p
    · refine ev_if_neg (by have := hp.1; omega) ?_
      rw [decide_eq_false (by have := hp.2; omega)]
      refine good hp hk ?_
      rcases hc with ⟨h, _⟩ | ⟨_, _, h1, h2, h3⟩ | ⟨_, _, h1, h2⟩
      · exact absurd ⟨hk, hp⟩ h
      · exact .inl ⟨h1, h2, h3⟩
      · exact .inr ⟨h1, h2⟩
    · have hz : t = 0 ∧ ok = false := by
        rcases hc with ⟨_, h⟩ | ⟨_, h, _⟩ | ⟨_, h, _⟩
        · exact h
        · exact absurd h hp
        · exact absurd h hp
      by_cases h0 : p < 0
      · exact ev_if_pos h0 (wrong hz.1 hz.2)
      · refine ev_if_neg h0 ?_
        rw [decide_eq_true (by unfold IsP at hp; omega)]
        exact wrong hz.1 hz.2
  · have hz : t = 0 ∧ ok = false := by
      rcases hc with ⟨_, h⟩ | ⟨h, _⟩ | ⟨h, _⟩
      · exact h
      · exact absurd h hk
      · exact absurd h hk
    exact ev_if_neg (by rw [decide_eq_false hk]; decide) (wrong hz.1 hz.2)

end Go.Proofs.Ytbehhijmcnoeeaa.Pure
