/- The reference's factor, Until and Spend: what the package's are; conditions as written in each lemma. -/
import Derived.Test.YtbehhijmcnoeeaaPlainUntil
import Derived.Test.YtbehhijmcnoeeaaPlainSpend
import Derived.Test.YtbehhijmcnoeeaaPlainRefValid
import Derived.Test.YtbehhijmcnoeeaaXAx24
import Derived.Test.YtbehhijmcnoeeaaXAx25
import Derived.Test.YtbehhijmcnoeeaaXAx26
namespace Go.Proofs.Ytbehhijmcnoeeaa.Plain
open Go.RowKit Go.Proofs.Ytbehhijmcnoeeaa.XA Go.Proofs.YtbehhijmcnoeeaaW.PrintWords Go.Proofs.YtbehhijmcnoeeaaW.PrintLast Go.Proofs.YtbehhijmcnoeeaaW.PrintMore

theorem nsub' {n i m : Nat} (h : n - i = m + 1) : n - (i + 1) = m ∧ i + 1 ≤ n ∧ i < n := by omega
theorem lin_at {kn : List S34} (h : Knots kn) (j : Nat) (hj : j < kn.length) : Lin kn (rd_T34 kn j).f0 (100 * (rd_T34 kn j).f1) := by
  refine ⟨j + 1, by omega, hj, by rw [Nat.add_sub_cancel]; exact Int.le_refl _, fun h1 => ?_, ?_⟩
  · have := (h.right (j + 1) h1).2.2 (by omega)
    rw [Nat.add_sub_cancel] at this
    exact this.1
  · rw [Nat.add_sub_cancel]
    split
    · rename_i h1
      have := (h.right (j + 1) h1).2.2 (by omega)
      rw [Nat.add_sub_cancel] at this
      exact (interp_left this.1).symm
    · rfl
theorem rknots (d g : Int) (b : Bool) (ls : List S34) (h : Right ls) (hl : ls.length ≤ 16) : assessorref51_knots.f d g b ls = some (deadlines_linear.knots ls) := by
  unfold assessorref51_knots.f deadlines_linear.knots
  simp only [Option.bind_some, List.length_nil, List.nil_append, List.length_cons]
  by_cases h0 : ls.length = 0
  · have : ls = [] := List.length_eq_zero_iff.1 h0
    subst this
    rfl
  · rw [if_neg (by omega), if_pos (by omega), if_neg h0]
    have h1 := (h 0 (by omega)).1.1
    by_cases h2 : (rd_T34 ls 0).f0 > 0
    · rw [if_pos h2, if_pos (by decide), if_pos (by omega), if_neg (by omega)]
      rfl
    · rw [if_neg h2, if_pos (by omega), if_pos (by have : (rd_T34 ls ((0 : Nat) : Int)).f0 = (rd_T34 ls 0).f0 := rfl; omega)]
theorem knots_len (ls : List S34) (hl : ls.length ≤ 16) : (deadlines_linear.knots ls).length ≤ 17 := by
  unfold deadlines_linear.knots
  split
  · simp
  · split
    · omega
    · simp; omega

/-- The reference's sum between two knots. -/
theorem interp_wrapped {x y : S34} {t : Int} (p1 : IsP x.f1) (p0 : IsP y.f1) (t1 : IsT x.f0) (t0 : IsT y.f0) (hs : x.f0 < y.f0) (hq : y.f1 ≤ x.f1) (hle : x.f0 ≤ t) (hge : t ≤ y.f0) :
    wrap64 (Int.tdiv (wrap64 (100 * wrap64 (wrap64 (x.f1 * wrap64 (y.f0 - t)) + wrap64 (y.f1 * wrap64 (t - x.f0))))) (wrap64 (y.f0 - x.f0))) = interp x y t ∧ wrap64 (y.f0 - x.f0) ≠ 0 := by
  have hterm := interp_terms (p := x.f1) (q := y.f1) (a := x.f0) (b := y.f0) (t := t) p1 p0 hq hle hge t1.1 t0.2
  have hbd := interp_bd (x := x) (y := y) (t := t) p1 p0 hq hle hge hs t1.1 t0.2
  unfold IsP at p0 p1
  unfold IsT MT at t0 t1
  have e1 : wrap64 (y.f0 - x.f0) = y.f0 - x.f0 := w64 (by omega)
  have e2 : wrap64 (y.f0 - t) = y.f0 - t := w64 (by omega)
  have e3 : wrap64 (t - x.f0) = t - x.f0 := w64 (by omega)
  rw [e1, e2, e3]
  refine ⟨?_, by omega⟩
  rw [w64 (n := x.f1 * _) (by omega), w64 (n := y.f1 * _) (by omega), w64 (n := _ + _) (by omega), w64 (n := 100 * _) (by omega)]
  rw [Int.tdiv_eq_ediv_of_nonneg (by omega)]
  have e4 : 100 * (x.f1 * (y.f0 - t) + y.f1 * (t - x.f0)) / (y.f0 - x.f0) = interp x y t := rfl
  rw [e4, w64 (by omega)]

theorem ev_parts_lin {kn : List S34} (h : Knots kn) (hl : kn.length ≤ 17) {t : Int} (m : Nat) : ∀ i : Nat, kn.length - i = m → 1 ≤ i → i ≤ kn.length → (rd_T34 kn ((i - 1 : Nat) : Int)).f0 < t →
    ∃ v, Lin kn t v ∧ Ev (fun k => assessorref51_parts.l1 k t kn (i : Int)) v := by
  induction m with
  | zero =>
    intro i hm h1 hi hlt
    have e : i = kn.length := by omega
    have hp := (h.right (kn.length - 1) (by omega)).2.1
    unfold IsP at hp
    subst e
    refine ⟨100 * (rd_T34 kn ((kn.length - 1 : Nat) : Int)).f1, ⟨kn.length, h1, Nat.le_refl _, by omega, fun h => by omega, by rw [if_neg (by omega)]⟩, ?_⟩
    have w : wrap64 ((kn.length : Int) - 1) = ((kn.length - 1 : Nat) : Int) := by rw [w64 (by omega)]; omega
    refine Ev.step (fun k => by rw [assessorref51_parts.l1, w]) (ev_if_neg (by omega) (ev_if_pos (by omega) (ev_if_pos (by omega) ?_)))
    rw [w64 (by omega)]
    exact Ev.now _
  | succ m ih =>
    intro i hm h1 hi hlt
    obtain ⟨q1, q2, hil⟩ := nsub' hm
    have w : wrap64 ((i : Int) - 1) = ((i - 1 : Nat) : Int) := by rw [w64 (by omega)]; omega
    have w' : wrap64 ((i : Int) + 1) = ((i + 1 : Nat) : Int) := by rw [w64 (by omega)]; omega
    have hs := h.right i hil
    have hs' := h.right (i - 1) (by omega)
    have hst := hs.2.2 (by omega)
    by_cases hb : t ≤ (rd_T34 kn i).f0
    · obtain ⟨e1, e2⟩ := interp_wrapped (x := rd_T34 kn ((i - 1 : Nat) : Int)) (y := rd_T34 kn i) (t := t) hs'.2.1 hs.2.1 hs'.1 hs.1 hst.1 hst.2 (by omega) hb
      refine ⟨interp (rd_T34 kn ((i - 1 : Nat) : Int)) (rd_T34 kn i) t, ?_, ?_⟩
      · rcases Int.lt_or_eq_of_le hb with h2 | h2
        · exact ⟨i, h1, by omega, by omega, fun _ => h2, by rw [if_pos hil]⟩
        · have hla := lin_at h i hil
          rw [h2, interp_right hst.1]
          exact hla
      · refine Ev.step (fun k => by rw [assessorref51_parts.l1, w]) ?_
        refine ev_if_pos (by omega) (ev_if_pos (by omega) (ev_if_pos (by omega) (ev_if_pos (by omega) (ev_if_pos hlt (ev_if_pos hb (ev_if_neg e2 ?_))))))
        rw [e1]
        exact Ev.now _
    · obtain ⟨v, hv, he⟩ := ih (i + 1) q1 (by omega) q2 (by rw [Nat.add_sub_cancel]; omega)
      refine ⟨v, hv, Ev.step (fun k => by rw [assessorref51_parts.l1, w, w']) ?_⟩
      exact ev_if_pos (by omega) (ev_if_pos (by omega) (ev_if_pos (by omega) (ev_if_pos (by omega) (ev_if_pos hlt (ev_if_neg hb he)))))

theorem ev_parts_step {ls : List S34} (h : Right ls) (hl : ls.length ≤ 16) (t : Int) (c : Nat) (hc : Cut ls t c) (d g : Int) (b : Bool) (m : Nat) : ∀ (i : Nat) (x : Int), ls.length - i = m → i ≤ ls.length → (i ≤ c ∧ x = 100 * per ls i ∨ c ≤ i ∧ x = 100 * per ls c) →
    Ev (fun k => assessorref51_parts.l0 k t x (i : Int) d g b ls) (100 * per ls c) := by
  induction m with
  | zero =>
    intro i x hm hi hx
    have e : x = 100 * per ls c := by
      rcases hx with ⟨h1, h2⟩ | ⟨h1, h2⟩
      · have : i = c := by have := hc.1; omega
        rw [h2, this]
      · exact h2
    refine Ev.step (f := fun _ => some (100 * per ls c)) (fun k => by rw [assessorref51_parts.l0, if_neg (by omega), e]) (Ev.now _)
  | succ m ih =>
    intro i x hm hi hx
    have hlt : i < ls.length := by omega
    refine Ev.step (fun k => by rw [assessorref51_parts.l0]) (ev_if_pos (by omega) (ev_if_pos (by omega) ?_))
    rw [show wrap64 ((i : Int) + 1) = ((i + 1 : Nat) : Int) from by rw [w64 (by omega)]; omega]
    by_cases hf : (rd_T34 ls i).f0 < t
    · have hp := (h i hlt).2.1
      unfold IsP at hp
      rw [w64 (n := 100 * _) (by omega)]
      refine ev_if_pos hf (ih (i + 1) _ (by omega) (by omega) (.inl ⟨?_, ?_⟩))
      · rcases Nat.lt_or_ge i c with h1 | h1
        · exact h1
        · have := hc.2.2 i h1 hlt; omega
      · unfold per; rw [if_neg (by omega)]; rfl
    · refine ev_if_neg hf (ih (i + 1) _ (by omega) (by omega) (.inr ⟨?_, ?_⟩))
      · rcases Nat.lt_or_ge i c with h1 | h1
        · have := hc.2.1 i h1; omega
        · omega
      · rcases hx with ⟨h1, h2⟩ | ⟨h1, h2⟩
        · have : i = c := by
            rcases Nat.lt_or_ge i c with h3 | h3
            · have := hc.2.1 i h3; omega
            · omega
          rw [h2, this]
        · exact h2

/-- The reference's factor of a valid policy. -/
theorem ev_parts {d g : Int} {b : Bool} {ls : List S34} (h : Okay d g ls) {t : Int} (ht : IsT t) : ∃ v, Fac b ls t v ∧ Ev (fun k => assessorref51_parts.f k d g b ls t) v := by
  have hr : Right ls := h.2.2.2
  unfold assessorref51_parts.f
  by_cases h0 : t = 0
  · exact ⟨10000, .inl ⟨h0, rfl⟩, ev_if_pos h0 (Ev.now _)⟩
  have hpos : 0 < t := by unfold IsT at ht; omega
  cases b with
  | true =>
    have hk := knots_of hr
    obtain ⟨v, hv, he⟩ := ev_parts_lin hk (knots_len ls h.2.2.1) (t := t) _ 1 rfl (Nat.le_refl _) hk.pos (by have := hk.zero; show (rd_T34 _ 0).f0 < t; omega)
    refine ⟨v, .inr (.inl ⟨hpos, rfl, hv⟩), ev_if_neg h0 (ev_if_pos rfl ?_)⟩
    rw [rknots d g true ls hr h.2.2.1]
    exact ev_some_bind he
  | false =>
    obtain ⟨c, hc⟩ := cut_of hr t
    exact ⟨100 * per ls c, .inr (.inr ⟨hpos, rfl, c, hc, rfl⟩), ev_if_neg h0 (ev_if_neg (by decide) (ev_parts_step hr h.2.2.1 t c hc d g false _ 0 10000 rfl (Nat.zero_le _) (.inl ⟨Nat.zero_le _, rfl⟩)))⟩

/-- The reference's Factor is the package's. -/
theorem ev_rFactor (d g : Int) (b : Bool) (ls : List S34) (t : Int) : ∃ x, Ev (fun k => deadlines_Factor.f k d g b ls t) x ∧ Ev (fun k => assessorref51_Factor.f k d g b ls t) x := by
  by_cases h : Okay d g ls ∧ IsT t
  · obtain ⟨n, hn, hf, he⟩ := ev_Factor (b := b) h.1 h.2
    refine ⟨_, he, ?_⟩
    obtain ⟨v, hv, hp⟩ := ev_parts (b := b) h.1 h.2
    have e := fac_one h.1.2.2.2 hf hv
    subst e
    unfold assessorref51_Factor.f
    refine (ev_rvalid d g b ls).bind (ev_if_pos (decide_eq_true h.1) ?_)
    rw [rtime, decide_eq_true h.2]
    refine ev_some_bind (Ev.step (fun k => by rw [assessorref51_Factor.j0]) (ev_if_neg (by decide) (hp.bind ?_)))
    exact (ev_make46 n 10000 (by omega) (by decide) (by decide)).bind (Ev.now _)
  · refine ⟨_, ev_Factor_bad h, ?_⟩
    have bad : Ev (fun k => assessorref51_Factor.j0 k t true d g b ls) ((0 : Int), (0 : Int)) := Ev.step (fun k => by rw [assessorref51_Factor.j0, if_pos rfl]) (Ev.now _)
    unfold assessorref51_Factor.f
    refine (ev_rvalid d g b ls).bind ?_
    by_cases h1 : Okay d g ls
    · refine ev_if_pos (decide_eq_true h1) ?_
      rw [rtime, decide_eq_false (fun h2 => h ⟨h1, h2⟩)]
      exact ev_some_bind bad
    · exact ev_if_neg (by rw [decide_eq_false h1]; decide) bad

/-! ### Until -/
theorem ev_runtil_l {d g : Int} {b : Bool} {ls : List S34} (h : Okay d g ls) {p : Int} (hp : IsP p) (n : Nat) : ∀ low high : Int, (high - low).toNat = n → 0 ≤ low → low < high → high ≤ MT →
    (∀ v, Fac b ls low v → 100 * p ≤ v) → (∀ v, Fac b ls high v → v < 100 * p) → ∃ t, Last b ls p t ∧ Ev (fun k => assessorref51_Until.l0 k p low high d g b ls) (t, true) := by
  induction n using Nat.strongRecOn with
  | _ n ih =>
    intro low high hn h0 hlt h1 hlow hhigh
    have hM : MT = 1099511627776 := rfl
    have w1 : wrap64 (high - low) = high - low := w64 (by omega)
    have w2 : wrap64 (Int.tdiv (wrap64 (low + high)) 2) = (low + high) / 2 := by
      rw [w64 (n := low + high) (by omega), Int.tdiv_eq_ediv_of_nonneg (by omega), w64 (by omega)]
    have w3 : wrap64 (100 * p) = 100 * p := w64 (by unfold IsP at hp; omega)
    by_cases hs : high - low > 1
    · have ht : IsT ((low + high) / 2) := by unfold IsT; omega
      obtain ⟨v, hf, he⟩ := ev_parts (b := b) h ht
      by_cases hv : v ≥ 100 * p
      · obtain ⟨t, hl, hev⟩ := ih ((high - (low + high) / 2).toNat) (by omega) ((low + high) / 2) high rfl (by omega) (by omega) h1 (fun v' hv' => by have := fac_one h.2.2.2 hf hv'; omega) hhigh
        refine ⟨t, hl, Ev.step (fun k => by rw [assessorref51_Until.l0, w1, w2, w3]) (ev_if_pos hs (he.bind ?_))⟩
        exact ev_if_pos hv hev
      · obtain ⟨t, hl, hev⟩ := ih (((low + high) / 2 - low).toNat) (by omega) low ((low + high) / 2) rfl h0 (by omega) (by omega) hlow (fun v' hv' => by have := fac_one h.2.2.2 hf hv'; omega)
        refine ⟨t, hl, Ev.step (fun k => by rw [assessorref51_Until.l0, w1, w2, w3]) (ev_if_pos hs (he.bind ?_))⟩
        exact ev_if_neg hv hev
    · have e : high = low + 1 := by omega
      subst e
      exact ⟨low, ⟨h0, h1, hlow, hhigh⟩, Ev.step (fun k => by rw [assessorref51_Until.l0, w1, if_neg hs]) (Ev.now _)⟩
theorem last_one {d g : Int} {b : Bool} {ls : List S34} (h : Okay d g ls) {p t t' : Int} (h1 : Last b ls p t) (h2 : Last b ls p t') : t = t' := by
  have key : ∀ t t' : Int, Last b ls p t → Last b ls p t' → ¬ t < t' := by
    intro t t' h1 h2 hlt
    obtain ⟨v, _, hv⟩ := fac_ev h.2.2.2 h.2.2.1 (t := t + 1) (by have := h1.1; have := h1.2.1; unfold IsT; omega) d g b
    obtain ⟨v', _, hv'⟩ := fac_ev h.2.2.2 h.2.2.1 (t := t') (by have := h2.1; have := h2.2.1; unfold IsT; omega) d g b
    have a1 := h1.2.2.2 v hv
    have a2 := h2.2.2.1 v' hv'
    have a3 := fac_mono h.2.2.2 hv hv' (by omega)
    omega
  have k1 := key t t' h1 h2
  have k2 := key t' t h2 h1
  omega
theorem ev_rUntil (d g : Int) (b : Bool) (ls : List S34) (p : Int) : ∃ t ok, Ev (fun k => deadlines_Until.f k d g b ls p) (t, ok) ∧ Ev (fun k => assessorref51_Until.f k d g b ls p) (t, ok) := by
  obtain ⟨t, ok, hu, hc⟩ := ev_Until d g b ls p
  refine ⟨t, ok, hu, ?_⟩
  have bad : Ev (fun k => assessorref51_Until.j0 k p true d g b ls) ((0 : Int), false) := Ev.step (fun k => by rw [assessorref51_Until.j0, if_pos rfl]) (Ev.now _)
  unfold assessorref51_Until.f
  refine (ev_rvalid d g b ls).bind ?_
  by_cases h1 : Okay d g ls
  · refine ev_if_pos (decide_eq_true h1) ?_
    by_cases h2 : IsP p
    · refine ev_if_neg (by have := h2.1; omega) (ev_if_neg (by have := h2.2; omega) ?_)
      obtain ⟨v, hf, he⟩ := ev_parts (b := b) h1 (t := 1099511627776) (by unfold IsT MT; omega)
      refine he.bind ?_
      rw [w64 (n := 100 * p) (by unfold IsP at h2; omega)]
      by_cases h3 : v ≥ 100 * p
      · rw [decide_eq_true h3]
        rcases hc with ⟨h, _⟩ | ⟨_, _, rfl, rfl, _⟩ | ⟨_, _, _, hl⟩
        · exact absurd ⟨h1, h2⟩ h
        · exact bad
        · obtain ⟨v1, _, hv1⟩ := fac_ev h1.2.2.2 h1.2.2.1 (t := t + 1) (by have := hl.1; have := hl.2.1; unfold IsT; omega) d g b
          have a1 := hl.2.2.2 v1 hv1
          have a2 := fac_mono h1.2.2.2 hv1 hf hl.2.1
          omega
      · rw [decide_eq_false h3]
        rcases hc with ⟨h, _⟩ | ⟨_, _, _, _, hall⟩ | ⟨_, _, rfl, hl⟩
        · exact absurd ⟨h1, h2⟩ h
        · exact absurd (hall v hf) h3
        · obtain ⟨t', hl', hev⟩ := ev_runtil_l (b := b) h1 h2 _ 0 MT rfl (Int.le_refl _) (by decide) (Int.le_refl _) (fun v' hv' => by
            have hp := h2.2
            rcases hv' with ⟨_, h⟩ | ⟨h, _⟩ | ⟨h, _⟩ <;> omega) (fun v' hv' => by have := fac_one h1.2.2.2 hf hv'; omega)
          have e := last_one h1 hl' hl
          subst e
          exact Ev.step (fun k => by rw [assessorref51_Until.j0]) (ev_if_neg (by decide) hev)
    · have hz : t = 0 ∧ ok = false := by
        rcases hc with ⟨_, h⟩ | ⟨_, h, _⟩ | ⟨_, h, _⟩
        · exact h
        · exact absurd h h2
        · exact absurd h h2
      rw [hz.1, hz.2]
      by_cases h3 : p < 0
      · exact ev_if_pos h3 bad
      · exact ev_if_neg h3 (ev_if_pos (by unfold IsP at h2; omega) bad)
  · have hz : t = 0 ∧ ok = false := by
      rcases hc with ⟨_, h⟩ | ⟨h, _⟩ | ⟨h, _⟩
      · exact h
      · exact absurd h h1
      · exact absurd h h1
    rw [hz.1, hz.2]
    exact ev_if_neg (by rw [decide_eq_false h1]; decide) bad

/-! ### Spend -/
theorem ev_rspend_l (l : List Int) (hl : l.length ≤ 30) (m : Nat) : ∀ (i : Nat) (r : Int) (acc : List Int), l.length - i = m → i ≤ l.length → acc.length ≤ i → 0 ≤ r → r ≤ 1099511627776 →
    Ev (fun k => assessorref51_Spend.l0 k l r acc (i : Int)) (acc ++ spend r (l.drop i)) := by
  induction m with
  | zero =>
    intro i r acc hm hi ha h0 h1
    have e : i = l.length := by omega
    rw [e, List.drop_length]
    exact Ev.step (f := fun _ => some acc) (fun k => by rw [assessorref51_Spend.l0, if_neg (by omega)]) (by simp only [spend, List.append_nil]; exact Ev.now _)
  | succ m ih =>
    intro i r acc hm hi ha h0 h1
    obtain ⟨q1, q2, hlt⟩ := nsub' hm
    have hc := cl_bd (rd l i)
    have hm1 := mn_bd hc.1 h0
    refine Ev.step (fun k => by rw [assessorref51_Spend.l0]) (ev_if_pos (by omega) (ev_if_pos (by omega) (ev_if_pos (by omega) ?_)))
    rw [drop_rd l i hlt, spend]
    rw [show mn (mx (rd l (i : Int)) 0) 1099511627776 = cl (rd l i) from rfl]
    rw [w64 (n := r - _) (by omega), w64 (n := cl (rd l i) - _) (by omega), show wrap64 ((i : Int) + 1) = ((i + 1 : Nat) : Int) from by rw [w64 (by omega)]; omega]
    have := ih (i + 1) (r - mn (cl (rd l i)) r) (acc ++ [cl (rd l i) - mn (cl (rd l i)) r]) q1 q2 (by simp; omega) (by omega) (by omega)
    rw [List.append_assoc] at this
    exact this
theorem ev_rspend (l : List Int) (hl : l.length ≤ 30) (a : Int) : Ev (fun k => assessorref51_Spend.f k l a) (spend (cl a) l) := by
  unfold assessorref51_Spend.f
  have hc := cl_bd a
  exact ev_rspend_l l hl l.length 0 (cl a) [] (by omega) (by omega) (by simp) hc.1 hc.2
theorem ev_ints_l (l : List Int) (hl : l.length ≤ 1000) (m : Nat) : ∀ (i : Nat), l.length - i = m → i ≤ l.length → Ev (fun k => assessorref49_Ints.l0 k l l (i : Int)) true := by
  induction m with
  | zero =>
    intro i hm hi
    exact Ev.step (f := fun _ => some true) (fun k => by rw [assessorref49_Ints.l0, if_neg (by omega)]) (Ev.now _)
  | succ m ih =>
    intro i hm hi
    obtain ⟨q1, q2, hlt⟩ := nsub' hm
    refine Ev.step (fun k => by rw [assessorref49_Ints.l0]) (ev_if_pos (by omega) (ev_if_pos (by omega) (ev_if_pos (by omega) (ev_if_pos rfl ?_))))
    rw [show wrap64 ((i : Int) + 1) = ((i + 1 : Nat) : Int) from by rw [w64 (by omega)]; omega]
    exact ih (i + 1) q1 q2
theorem ev_ints (l : List Int) (hl : l.length ≤ 1000) : Ev (fun k => assessorref49_Ints.f k l l) true := by
  unfold assessorref49_Ints.f
  exact ev_if_pos rfl (ev_ints_l l hl l.length 0 rfl (Nat.zero_le _))

end Go.Proofs.Ytbehhijmcnoeeaa.Plain
