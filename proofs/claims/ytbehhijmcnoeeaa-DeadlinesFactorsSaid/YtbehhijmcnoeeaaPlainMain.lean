/- The factor as a fraction in lowest terms, comparisons of such fractions, the chapter's examples; conditions as written in each lemma. -/
import Derived.Test.YtbehhijmcnoeeaaPlainFactor
import Derived.Test.YtbehhijmcnoeeaaXAx7
namespace Go.Proofs.Ytbehhijmcnoeeaa.Plain
open Go.RowKit Go.Proofs.Ytbehhijmcnoeeaa.XA Go.Proofs.YtbehhijmcnoeeaaW.PrintWords Go.Proofs.YtbehhijmcnoeeaaW.PrintLast

theorem ev_awake : Ev (fun k => assessorlaw51_awake.f k) true := Ev.of (fun k => assessorlaw51_awake.mono k) (k := 60) (by decide +kernel)

theorem low_cross_lt (n d m e : Nat) (hd : 1 ≤ d) (he : 1 ≤ e) : ((low n d).1 * (low m e).2 < (low m e).1 * (low n d).2) ↔ n * e < m * d := by
  obtain ⟨h1, h2⟩ := low_mul n d
  obtain ⟨h3, h4⟩ := low_mul m e
  have g1 : 0 < Nat.gcd n d * Nat.gcd m e := Nat.mul_pos (Nat.gcd_pos_of_pos_right _ hd) (Nat.gcd_pos_of_pos_right _ he)
  have e1 : n * e = ((low n d).1 * (low m e).2) * (Nat.gcd n d * Nat.gcd m e) := by
    rw [show n * e = ((low n d).1 * Nat.gcd n d) * ((low m e).2 * Nat.gcd m e) from by rw [h1, h4]]
    simp only [Nat.mul_assoc, Nat.mul_left_comm]
  have e2 : m * d = ((low m e).1 * (low n d).2) * (Nat.gcd n d * Nat.gcd m e) := by
    rw [show m * d = ((low m e).1 * Nat.gcd m e) * ((low n d).2 * Nat.gcd n d) from by rw [h3, h2]]
    simp only [Nat.mul_assoc, Nat.mul_left_comm, Nat.mul_comm]
  rw [e1, e2]
  exact (Nat.mul_lt_mul_right g1).symm

/-- The sign of the comparison of n/d and m/e. -/
theorem cmp_low (n d m e : Nat) (hd : 1 ≤ d) (he : 1 ≤ e) : cmp3 ((low n d).1 * (low m e).2) ((low m e).1 * (low n d).2) = cmp3 (n * e) (m * d) := by
  unfold cmp3
  have h1 := low_cross_lt n d m e hd he
  have h2 := low_cross_lt m e n d he hd
  by_cases a : n * e < m * d
  · rw [if_pos (h1.2 a), if_pos a]
  · rw [if_neg (fun h => a (h1.1 h)), if_neg a]
    by_cases b : n * e > m * d
    · rw [if_pos (h2.2 b), if_pos b]
    · rw [if_neg (fun h => b (h2.1 h)), if_neg b]
theorem cmp_ge {x y : Nat} (h : y ≤ x) : 0 ≤ cmp3 x y := by unfold cmp3; rw [if_neg (by omega)]; split <;> decide
theorem cmp_le {x y : Nat} (h : x ≤ y) : cmp3 x y ≤ 0 := by unfold cmp3; split; · decide
                                                            · rw [if_neg (by omega)]; decide
theorem cmp_lt {x y : Nat} (h : x < y) : cmp3 x y < 0 := by unfold cmp3; rw [if_pos h]; decide

theorem ev_cmp_low (n d m e : Nat) (hn : n ≤ 1000000) (hd : 1 ≤ d) (hd' : d ≤ 1000000) (hm : m ≤ 1000000) (he : 1 ≤ e) (he' : e ≤ 1000000) :
    Ev (fun k => assessorref46_Compare.f k ((low n d).1 : Int) ((low n d).2 : Int) ((low m e).1 : Int) ((low m e).2 : Int)) (cmp3 (n * e) (m * d), true) := by
  rw [← cmp_low n d m e hd he]
  exact ev_compare _ _ _ _ (by have := low_le1 n d; omega) (low_pos n d hd) (by have := low_le2 n d; omega) (by have := low_le1 m e; omega) (low_pos m e he) (by have := low_le2 m e; omega) (low_gcd n d hd) (low_gcd m e he)

/-! ### Factor -/
theorem ev_Factor_bad {d g : Int} {b : Bool} {ls : List S34} {t : Int} (h : ¬ (Okay d g ls ∧ IsT t)) : Ev (fun k => deadlines_Factor.f k d g b ls t) ((0 : Int), (0 : Int)) := by
  have bad : Ev (fun k => deadlines_Factor.j0 k t true d g b ls) ((0 : Int), (0 : Int)) := Ev.step (fun k => by rw [deadlines_Factor.j0, if_pos rfl]) (Ev.now _)
  unfold deadlines_Factor.f
  refine (ev_valid d g b ls).bind ?_
  by_cases h1 : Okay d g ls
  · refine ev_if_pos (by simpa using h1) ?_
    rw [istime]
    refine ev_some_bind ?_
    have h2 : ¬ IsT t := fun h2 => h ⟨h1, h2⟩
    rw [decide_eq_false h2]
    exact bad
  · exact ev_if_neg (by simpa using h1) bad
theorem ev_Factor {d g : Int} {b : Bool} {ls : List S34} {t : Int} (h : Okay d g ls) (ht : IsT t) : ∃ n : Nat, n ≤ 10000 ∧ Fac b ls t n ∧ Ev (fun k => deadlines_Factor.f k d g b ls t) (((low n 10000).1 : Int), ((low n 10000).2 : Int)) := by
  have hr : Right ls := h.2.2.2
  obtain ⟨v, hv, hf⟩ := fac_ev hr h.2.2.1 ht d g b
  obtain ⟨h0, h1⟩ := fac_bd hr hf
  obtain ⟨n, rfl⟩ := Int.eq_ofNat_of_zero_le h0
  refine ⟨n, by omega, hf, ?_⟩
  unfold deadlines_Factor.f
  refine (ev_valid d g b ls).bind (ev_if_pos (by simpa using h) ?_)
  rw [istime, decide_eq_true ht]
  refine ev_some_bind ?_
  refine Ev.step (fun k => by rw [deadlines_Factor.j0]) (ev_if_neg (by decide) (hv.bind ?_))
  have hm := ev_make n 10000 (by omega) (by decide) (by decide)
  exact hm.bind (Ev.now _)

end Go.Proofs.Ytbehhijmcnoeeaa.Plain
