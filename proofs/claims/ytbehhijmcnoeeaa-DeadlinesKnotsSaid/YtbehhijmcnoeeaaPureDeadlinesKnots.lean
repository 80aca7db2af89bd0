/- The factor of a linear late policy at its knots and between them: the printed law answers true at every input. -/
import Derived.Test.YtbehhijmcnoeeaaPlainMain
import Derived.Test.YtbehhijmcnoeeaaXAx17
namespace Go.Proofs.Ytbehhijmcnoeeaa.Pure
open Go.RowKit Go.Proofs.Ytbehhijmcnoeeaa.XA Go.Proofs.Ytbehhijmcnoeeaa.Plain Go.Proofs.YtbehhijmcnoeeaaW.PrintWords Go.Proofs.YtbehhijmcnoeeaaW.PrintLast

theorem low_scale (c n d : Nat) (hc : 0 < c) : low (c * n) (c * d) = low n d := by
  unfold low
  rw [Nat.gcd_mul_left, Nat.mul_div_mul_left _ _ hc, Nat.mul_div_mul_left _ _ hc]
/-- A knot of the steps among all knots. -/
theorem knot_at (ls : List S34) (i : Nat) (hi : i < ls.length) : ∃ j : Nat, j < (deadlines_linear.knots ls).length ∧ rd_T34 (deadlines_linear.knots ls) j = rd_T34 ls i := by
  unfold deadlines_linear.knots
  rw [if_neg (by omega)]
  split
  · exact ⟨i, hi, rfl⟩
  · exact ⟨i + 1, by simp; omega, rd_succ_cons _ _ _⟩
theorem lin_knot {kn : List S34} (h : Knots kn) (j : Nat) (hj : j < kn.length) : Lin kn (rd_T34 kn j).f0 (100 * (rd_T34 kn j).f1) := by
  refine ⟨j + 1, by omega, hj, by rw [Nat.add_sub_cancel]; exact Int.le_refl _, fun h1 => ?_, ?_⟩
  · have := (h.right (j + 1) h1).2.2 (by omega)
    rw [Nat.add_sub_cancel] at this
    exact this.1
  · rw [Nat.add_sub_cancel]
    split
    · rename_i h1
      have := (h.right (j + 1) h1).2.2 (by omega)
      rw [Nat.add_sub_cancel] at this
      exact (interp_left this.1).symm
    · rfl
/-- The factor of a linear policy behind a step is at most the step's. -/
theorem fac_knot_le {ls : List S34} (h : Right ls) (i : Nat) (hi : i < ls.length) {t v : Int} (hv : Fac true ls t v) (h0 : 0 < t) (ht : (rd_T34 ls i).f0 ≤ t) : v ≤ 100 * (rd_T34 ls i).f1 := by
  rcases hv with ⟨h1, _⟩ | ⟨_, _, hl⟩ | ⟨_, h1, _⟩
  · omega
  · obtain ⟨j, hj, e⟩ := knot_at ls i hi
    have := lin_mono (knots_of h) (lin_knot (knots_of h) j hj) hl (by rw [e]; exact ht)
    rw [e] at this
    exact this
  · cases h1
/-- The factor of a linear policy up to a step is at least the step's. -/
theorem fac_knot_ge {ls : List S34} (h : Right ls) (i : Nat) (hi : i < ls.length) {t v : Int} (hv : Fac true ls t v) (h0 : 0 < t) (ht : t ≤ (rd_T34 ls i).f0) : 100 * (rd_T34 ls i).f1 ≤ v := by
  rcases hv with ⟨h1, _⟩ | ⟨_, _, hl⟩ | ⟨_, h1, _⟩
  · omega
  · obtain ⟨j, hj, e⟩ := knot_at ls i hi
    have := lin_mono (knots_of h) hl (lin_knot (knots_of h) j hj) (by rw [e]; exact ht)
    rw [e] at this
    exact this
  · cases h1
theorem low01' : low 0 1 = (0, 1) := by decide

theorem knots_j3 {d g : Int} {ls : List S34} {t : Int} (h : Okay d g ls) (ht : IsT t) (p q e : Nat) (hp : p ≤ 100) (hq : q ≤ 100) (he : 1 ≤ e) (he' : e ≤ 100)
    (hv : ∀ n : Nat, Fac true ls t n → n ≤ 100 * p ∧ q * 10000 ≤ n * e) :
    Ev (fun k => assessorlaw51_DeadlinesKnots.j3 k t 0 d g true ls ((low p 100).1 : Int) ((low p 100).2 : Int) ((low q e).1 : Int) ((low q e).2 : Int)) true := by
  obtain ⟨n, hn, hf, hev⟩ := ev_Factor (b := true) h ht
  obtain ⟨v1, v2⟩ := hv n hf
  refine Ev.step (fun k => by rw [assessorlaw51_DeadlinesKnots.j3]) ?_
  refine hev.bind ?_
  refine (ev_cmp_low n 10000 p 100 (by omega) (by omega) (by omega) (by omega) (by omega) (by omega)).bind ?_
  refine hev.bind ?_
  refine (ev_cmp_low n 10000 q e (by omega) (by omega) (by omega) (by omega) (by omega) (by omega)).bind ?_
  have g1 : cmp3 (n * 100) (p * 10000) ≤ 0 := cmp_le (by omega)
  have g2 : cmp3 (n * e) (q * 10000) ≥ 0 := cmp_ge v2
  refine ev_if_pos rfl (ev_if_pos rfl (ev_if_pos rfl (ev_if_pos g1 ?_)))
  rw [decide_eq_true g2]
  exact Ev.now _

theorem knots_j1 {d g : Int} {ls : List S34} (h : Okay d g ls) (i : Nat) (hi : i < ls.length) (t : Int) (p : Nat) (hp : (p : Int) = (rd_T34 ls i).f1) :
    Ev (fun k => assessorlaw51_DeadlinesKnots.j1 k t (i : Int) 0 false d g true ls (rd_T34 ls i).f0 (rd_T34 ls i).f1 ((low p 100).1 : Int) ((low p 100).2 : Int)) true := by
  have out : Ev (fun k => assessorlaw51_DeadlinesKnots.j2 k t (i : Int) 0 true d g true ls ((low p 100).1 : Int) ((low p 100).2 : Int)) true :=
    Ev.step (fun k => by rw [assessorlaw51_DeadlinesKnots.j2, if_pos rfl]) (Ev.now _)
  refine Ev.step (fun k => by rw [assessorlaw51_DeadlinesKnots.j1]) (ev_if_neg (by decide) ?_)
  have hl := h.2.2.1
  have hr : Right ls := h.2.2.2
  have hi1 := hr i hi
  have hp1 := hi1.2.1
  unfold IsP at hp1
  have hT := hi1.1
  unfold IsT at hT
  by_cases h0 : t < 0
  · exact ev_if_pos h0 out
  refine ev_if_neg h0 ?_
  by_cases h1 : t > 1099511627776
  · exact ev_if_pos h1 out
  refine ev_if_neg h1 ?_
  by_cases h2 : t ≤ (rd_T34 ls i).f0
  · rw [decide_eq_true h2]; exact out
  rw [decide_eq_false h2]
  have ht : IsT t := by unfold IsT MT; omega
  refine Ev.step (fun k => by rw [assessorlaw51_DeadlinesKnots.j2]) (ev_if_neg (by decide) ?_)
  rw [show wrap64 ((i : Int) + 1) = ((i + 1 : Nat) : Int) from by rw [w64 (by omega)]; omega]
  by_cases h3 : i + 1 < ls.length
  · refine ev_if_pos (by omega) (ev_if_pos (by omega) ?_)
    by_cases h4 : t > (rd_T34 ls ((i + 1 : Nat) : Int)).f0
    · exact ev_if_pos h4 (Ev.now _)
    refine ev_if_neg h4 ?_
    have hq := (hr (i + 1) h3).2.1
    unfold IsP at hq
    obtain ⟨q, hq'⟩ := Int.eq_ofNat_of_zero_le hq.1
    rw [hq']
    have hm := ev_make46 q 100 (by omega) (by decide) (by decide)
    refine hm.bind ?_
    refine knots_j3 h ht p q 100 (by omega) (by omega) (by decide) (by decide) (fun n hn => ?_)
    have a1 := fac_knot_le hr i hi hn (by omega) (by omega)
    have a2 := fac_knot_ge hr (i + 1) h3 hn (by omega) (by omega)
    omega
  · refine ev_if_neg (by omega) ?_
    have := knots_j3 h ht p 0 1 (by omega) (by omega) (by decide) (by decide) (fun n hn => by
      have a1 := fac_knot_le hr i hi hn (by omega) (by omega)
      omega)
    rw [low01'] at this
    exact this

theorem DeadlinesKnots (d g : Int) (b : Bool) (ls : List S34) (a1 a2 : Int) (w1 : (Lit.int .u8 a1).wf = true) : ∃ k, assessorlaw51_DeadlinesKnots.f k d g b ls a1 a2 = some true := by
  have hu : 0 ≤ a1 ∧ a1 ≤ 255 := by
    have := w1
    simp [Lit.wf, show IntKind.u8.min = 0 from by decide, show IntKind.u8.max = 255 from by decide] at this
    omega
  refine Ev.rounds (g := fun k => assessorlaw51_DeadlinesKnots.f k d g b ls a1 a2) ?_
  unfold assessorlaw51_DeadlinesKnots.f
  refine ev_awake.bind (ev_if_pos rfl ?_)
  have out : Ev (fun k => assessorlaw51_DeadlinesKnots.j0 k a1 a2 true d g true ls) true := Ev.step (fun k => by rw [assessorlaw51_DeadlinesKnots.j0, if_pos rfl]) (Ev.now _)
  by_cases hl : (ls.length : Int) > 20
  · exact ev_if_pos hl out
  refine ev_if_neg hl ?_
  by_cases hz : (ls.length : Int) = 0
  · exact ev_if_pos hz out
  refine ev_if_neg hz ((ev_valid d g true ls).bind ?_)
  by_cases hv : Okay d g ls
  · rw [decide_eq_true hv]
    refine Ev.step (fun k => by rw [assessorlaw51_DeadlinesKnots.j0]) (ev_if_neg (by decide) (ev_if_neg hz ?_))
    obtain ⟨a, rfl⟩ := Int.eq_ofNat_of_zero_le hu.1
    have hm : a % ls.length < ls.length := Nat.mod_lt _ (by omega)
    rw [w64 (n := (a : Int)) (by omega), tmod_nat]
    generalize a % ls.length = i at hm
    refine ev_if_pos (by omega) (ev_if_pos (by omega) ?_)
    have hr : Right ls := hv.2.2.2
    have hi1 := hr i hm
    have hp := hi1.2.1
    unfold IsP at hp
    obtain ⟨p, hp'⟩ := Int.eq_ofNat_of_zero_le hp.1
    have hj := knots_j1 hv i hm a2 p hp'.symm
    rw [hp'] at hj ⊢
    have hmk := ev_make46 p 100 (by omega) (by decide) (by decide)
    refine hmk.bind (ev_if_pos rfl ?_)
    by_cases h0 : (rd_T34 ls i).f0 > 0
    · refine ev_if_pos h0 ?_
      obtain ⟨n, hn, hf, he⟩ := ev_Factor (b := true) hv hi1.1
      refine he.bind ?_
      have e1 := fac_knot_le hr i hm hf h0 (Int.le_refl _)
      have e2 := fac_knot_ge hr i hm hf h0 (Int.le_refl _)
      have e3 : n = 100 * p := by omega
      have e4 : low n 10000 = low p 100 := by rw [e3]; exact low_scale 100 p 100 (by decide)
      rw [e4]
      simp only [beq_self_eq_true, Bool.not_true, Bool.or_self]
      exact hj
    · exact ev_if_neg h0 hj
  · rw [decide_eq_false hv]
    exact out

end Go.Proofs.Ytbehhijmcnoeeaa.Pure
