/- Spending takes away exactly the allowance, or all lateness if there is less of it, from the first ones on: the printed law answers true at every input. -/
import Derived.Test.YtbehhijmcnoeeaaPlainSpend
import Derived.Test.YtbehhijmcnoeeaaXAx20
namespace Go.Proofs.Ytbehhijmcnoeeaa.Pure
open Go.RowKit Go.Proofs.Ytbehhijmcnoeeaa.XA Go.Proofs.Ytbehhijmcnoeeaa.Plain Go.Proofs.YtbehhijmcnoeeaaW.PrintWords Go.Proofs.YtbehhijmcnoeeaaW.PrintLast Go.Proofs.YtbehhijmcnoeeaaW.PrintMore

theorem sub_step {n i m : Nat} (h : n - i = m + 1) : n - (i + 1) = m ∧ i + 1 ≤ n ∧ i < n := by omega
/-- The numbers of one round. -/
theorem spend_step {r t c o all taken ca M : Int} {full full' : Bool} (h0 : 0 ≤ r) (h1 : r ≤ 1099511627776) (hc0 : 0 ≤ c) (hc1 : c ≤ 1099511627776) (ht0 : 0 ≤ t) (htc : t ≤ c) (htr : t ≤ r) (ho : o = c - t)
    (hta : taken = ca - r) (hta0 : 0 ≤ taken) (hle : taken ≤ all) (hall : all + (M + 1) * 1099511627776 ≤ 32985348833280) (hf : full = true → taken = all)
    (hy : full' = true → full = true ∧ o = 0) :
    0 ≤ r - t ∧ r - t ≤ 1099511627776 ∧ taken + c - o = ca - (r - t) ∧ 0 ≤ taken + c - o ∧ taken + c - o ≤ all + c ∧ all + c + M * 1099511627776 ≤ 32985348833280 ∧ (full' = true → taken + c - o = all + c) := by
  refine ⟨by omega, by omega, by omega, by omega, by omega, by omega, fun h => ?_⟩
  have h1 := hy h
  have h2 := hf h1.1
  omega

theorem spends_l (l out : List Int) (hl : l.length ≤ 30) (ho : out.length = l.length) (a : Int) (m : Nat) : ∀ (i : Nat) (r all taken : Int) (full : Bool), l.length - i = m → i ≤ l.length →
    out.drop i = spend r (l.drop i) → 0 ≤ r → r ≤ 1099511627776 → taken = cl a - r → 0 ≤ taken → taken ≤ all → all + (m : Int) * 1099511627776 ≤ 32985348833280 → (full = true → taken = all) → (full = false → r = 0) →
    Ev (fun k => assessorlaw51_DeadlinesSpends.l0 k a out all taken full l (l.length : Int) (i : Int)) true := by
  induction m with
  | zero =>
    intro i r all taken full hm hi hd h0 h1 ht ht0 hle hall hf hnf
    have e : (taken == mn all (cl a)) = true := by
      rw [beq_iff_eq]
      unfold mn
      cases full with
      | true =>
        have := hf rfl
        rw [if_neg (by omega)]
        exact this
      | false =>
        have := hnf rfl
        split <;> omega
    exact Ev.step (f := fun _ => some true) (fun k => by rw [assessorlaw51_DeadlinesSpends.l0, if_neg (by omega)]; exact congrArg some e) (Ev.now _)
  | succ m ih =>
    intro i r all taken full hm hi hd h0 h1 ht ht0 hle hall hf hnf
    obtain ⟨q1, q2, hlt⟩ := sub_step hm
    have b0 : (0 : Int) ≤ (i : Int) := Int.natCast_nonneg i
    have b1 : (i : Int) < (l.length : Int) := Int.ofNat_lt.mpr hlt
    have b2 : (i : Int) < (out.length : Int) := by rw [ho]; exact b1
    rw [drop_rd l i hlt, drop_rd out i (by omega), spend, List.cons.injEq] at hd
    obtain ⟨ho1, hd⟩ := hd
    refine Ev.step (fun k => by rw [assessorlaw51_DeadlinesSpends.l0]) ?_
    refine ev_if_pos b1 (ev_if_pos b0 (ev_if_pos b1 (ev_if_pos b2 ?_)))
    have hc := cl_bd (rd l i)
    have hm1 := mn_bd hc.1 h0
    have hm2 : mn (cl (rd l i)) r = cl (rd l i) ∨ mn (cl (rd l i)) r = r := by unfold mn; split <;> simp
    have hca := cl_bd a
    have IH := ih (i + 1) (r - mn (cl (rd l i)) r)
    show Ev (fun k => if rd out i < 0 then _ else if rd out i > cl (rd l i) then _ else if rd out i < cl (rd l i) then assessorlaw51_DeadlinesSpends.j1 k a out all taken full (i : Int) (cl (rd l i)) l (l.length : Int) (i : Int) (!full) else assessorlaw51_DeadlinesSpends.j1 k a out all taken full (i : Int) (cl (rd l i)) l (l.length : Int) (i : Int) false) true
    clear ih
    generalize mn (cl (rd l i)) r = t at *
    generalize cl (rd l i) = c at *
    generalize hO : rd out i = o at *
    generalize hA : cl a = ca at *
    clear hA
    have w1 : wrap64 (all + c) = all + c := w64 (by omega)
    have w2 : wrap64 (taken + c) = taken + c := w64 (by omega)
    have w3 : wrap64 (taken + c - o) = taken + c - o := w64 (by omega)
    have w4 : wrap64 ((i : Int) + 1) = ((i + 1 : Nat) : Int) := by rw [w64 (by omega)]; omega
    have next : ∀ full' : Bool, (full' = true → full = true ∧ o = 0) → (full' = false → r - t = 0) → Ev (fun k => assessorlaw51_DeadlinesSpends.l0 k a out (all + c) (taken + c - o) full' l (l.length : Int) ((i + 1 : Nat) : Int)) true := by
      intro full' hy hn
      obtain ⟨q3, q4, q5, q6, q7, q8, q10⟩ := spend_step (M := m) h0 h1 hc.1 hc.2 hm1.1 hm1.2.1 hm1.2.2 ho1 ht ht0 hle (by omega) hf hy
      exact IH (all + c) (taken + c - o) full' q1 q2 hd q3 q4 q5 q6 q7 q8 q10 hn
    have go : ∀ bad : Bool, bad = false → Ev (fun k => assessorlaw51_DeadlinesSpends.j1 k a out all taken full (i : Int) c l (l.length : Int) (i : Int) bad) true := by
      rintro bad rfl
      refine Ev.step (fun k => by rw [assessorlaw51_DeadlinesSpends.j1]) (ev_if_neg (by decide) ?_)
      rw [hO, w1, w2, w3, w4]
      cases full with
      | true =>
        refine ev_if_pos rfl (ev_if_pos b0 (ev_if_pos b2 (next _ (fun h => ⟨rfl, by simpa using h⟩) (fun h => ?_))))
        have h3 : ¬ o = 0 := by simpa using h
        omega
      | false =>
        exact ev_if_neg (by decide) (ev_if_pos b0 (ev_if_pos b2 (next _ (fun h => by cases h) (fun _ => by have := hnf rfl; omega))))
    refine ev_if_neg (by omega) (ev_if_neg (by omega) ?_)
    by_cases hlt2 : o < c
    · refine ev_if_pos hlt2 (go _ ?_)
      cases full with
      | true => rfl
      | false => have := hnf rfl; omega
    · exact ev_if_neg hlt2 (go _ rfl)

theorem DeadlinesSpends (l : List Int) (a : Int) : ∃ k, assessorlaw51_DeadlinesSpends.f k l a = some true := by
  refine Ev.rounds (g := fun k => assessorlaw51_DeadlinesSpends.f k l a) ?_
  unfold assessorlaw51_DeadlinesSpends.f
  refine ev_awake.bind (ev_if_pos rfl ?_)
  by_cases hl : (l.length : Int) > 30
  · exact ev_if_pos hl (Ev.now _)
  refine ev_if_neg hl ((ev_spend l (by omega) a).bind (ev_if_pos (by rw [spend_length]) ?_))
  have hc := cl_bd a
  exact spends_l l (spend (cl a) l) (by omega) (spend_length _ _) a l.length 0 (cl a) 0 0 true (by omega) (by omega) rfl hc.1 hc.2 (by omega) (by omega) (by omega) (by omega) (fun _ => rfl) (fun h => by cases h)

end Go.Proofs.Ytbehhijmcnoeeaa.Pure
