/- Due times with extensions, lateness against them, the law's bounds on its inputs, as plain functions; conditions as written in each lemma. -/
import Derived.Test.YtbehhijmcnoeeaaPlainMain
import Derived.Test.YtbehhijmcnoeeaaXAx11
import Derived.Test.YtbehhijmcnoeeaaXAx7
namespace Go.Proofs.Ytbehhijmcnoeeaa.Plain
open Go.RowKit Go.Proofs.Ytbehhijmcnoeeaa.XA Go.Proofs.YtbehhijmcnoeeaaW.PrintWords Go.Proofs.YtbehhijmcnoeeaaW.PrintLast Go.Proofs.YtbehhijmcnoeeaaW.PrintMore

theorem rd49_drop (l : List S49) (i : Nat) (h : i < l.length) : l.drop i = rd_T49 l i :: l.drop (i + 1) := by
  rw [List.drop_eq_getElem_cons h]
  simp [rd_T49, List.getElem?_eq_getElem h]
theorem wnext {i n : Nat} (h : i < n) (hn : n ≤ 1000) : wrap64 ((i : Int) + 1) = ((i + 1 : Nat) : Int) := by rw [w64 (by omega)]; omega
theorem nsub {n i m : Nat} (h : n - i = m + 1) : n - (i + 1) = m ∧ i + 1 ≤ n ∧ i < n := by omega

/-! ### the due time -/
/-- The extension x counts at t for s. -/
def Counts (s : ByteArray) (t : Int) (x : S49) : Prop := x.f0.toList = s.toList ∧ x.f2 ≤ t ∧ IsT x.f1
instance (s : ByteArray) (t : Int) (x : S49) : Decidable (Counts s t x) := inferInstanceAs (Decidable (_ ∧ _))
def dueOf (s : ByteArray) (t : Int) : Int → List S49 → Int
  | d, [] => d
  | d, x :: l => dueOf s t (if Counts s t x then mx d x.f1 else d) l
theorem mx_ge (a b : Int) : a ≤ mx a b ∧ b ≤ mx a b := by unfold mx; split <;> omega
theorem mx_t {a b : Int} (ha : IsT a) (hb : IsT b) : IsT (mx a b) := by unfold mx; split <;> assumption
theorem dueOf_ge (s : ByteArray) (t : Int) (l : List S49) : ∀ d, d ≤ dueOf s t d l := by
  induction l with
  | nil => intro d; exact Int.le_refl _
  | cons x l ih =>
    intro d
    refine Int.le_trans ?_ (ih _)
    split
    · exact (mx_ge d x.f1).1
    · exact Int.le_refl _
theorem dueOf_t (s : ByteArray) (t : Int) (l : List S49) : ∀ d, IsT d → IsT (dueOf s t d l) := by
  induction l with
  | nil => intro d h; exact h
  | cons x l ih =>
    intro d h
    refine ih _ ?_
    split
    · rename_i hc; exact mx_t h hc.2.2
    · exact h
theorem dueOf_append (s : ByteArray) (t : Int) (l : List S49) (x : S49) : ∀ d, dueOf s t d (l ++ [x]) = if Counts s t x then mx (dueOf s t d l) x.f1 else dueOf s t d l := by
  induction l with
  | nil => intro d; rfl
  | cons y l ih => intro d; exact ih _

theorem ev_due_l (l : List S49) (hl : l.length ≤ 1000) (s : ByteArray) (t : Int) (m : Nat) : ∀ (i : Nat) (d : Int), l.length - i = m → i ≤ l.length →
    Ev (fun k => deadlines_Due.l0 k s t d l (l.length : Int) (i : Int)) (dueOf s t d (l.drop i)) := by
  induction m with
  | zero =>
    intro i d hm hi
    have e : i = l.length := by omega
    rw [e, List.drop_length]
    exact Ev.step (f := fun _ => some d) (fun k => by rw [deadlines_Due.l0, if_neg (by omega)]) (Ev.now _)
  | succ m ih =>
    intro i d hm hi
    obtain ⟨q1, q2, hlt⟩ := nsub hm
    have b0 : (0 : Int) ≤ (i : Int) := Int.natCast_nonneg i
    have b1 : (i : Int) < (l.length : Int) := Int.ofNat_lt.mpr hlt
    refine Ev.step (fun k => by rw [deadlines_Due.l0]) (ev_if_pos b1 (ev_if_pos b0 (ev_if_pos b1 ?_)))
    rw [rd49_drop l i hlt, dueOf]
    have hj : ∀ bad : Bool, bad = decide (Counts s t (rd_T49 l i)) → Ev (fun k => deadlines_Due.j2 k s t d l (l.length : Int) (i : Int) bad (rd_T49 l i).f0 (rd_T49 l i).f1 (rd_T49 l i).f2) (dueOf s t (if Counts s t (rd_T49 l i) then mx d (rd_T49 l i).f1 else d) (l.drop (i + 1))) := by
      intro bad hb
      refine Ev.step (fun k => by rw [deadlines_Due.j2, wnext hlt hl]) ?_
      by_cases hc : Counts s t (rd_T49 l i)
      · rw [decide_eq_true hc] at hb
        rw [if_pos hc]
        exact ev_if_pos hb (ih (i + 1) _ q1 q2)
      · rw [decide_eq_false hc] at hb
        rw [if_neg hc]
        exact ev_if_neg (by rw [hb]; decide) (ih (i + 1) _ q1 q2)
    by_cases h1 : (rd_T49 l i).f0.toList = s.toList
    · refine ev_if_pos h1 ?_
      by_cases h2 : (rd_T49 l i).f2 ≤ t
      · refine ev_if_pos h2 ?_
        rw [istime]
        refine ev_some_bind (hj _ ?_)
        rw [decide_eq_decide]
        exact ⟨fun h => ⟨h1, h2, h⟩, fun h => h.2.2⟩
      · exact ev_if_neg h2 (hj _ (decide_eq_false (fun h => h2 h.2.1)).symm)
    · exact ev_if_neg h1 (hj _ (decide_eq_false (fun h => h1 h.1)).symm)
theorem ev_Due (d g : Int) (b : Bool) (ls : List S34) (l : List S49) (hl : l.length ≤ 1000) (s : ByteArray) (t : Int) :
    Ev (fun k => deadlines_Due.f k d g b ls l s t) (if Okay d g ls ∧ IsT t then dueOf s t d l else -1) := by
  have bad : ¬ (Okay d g ls ∧ IsT t) → Ev (fun k => deadlines_Due.j0 k l s t true d g b ls) (if Okay d g ls ∧ IsT t then dueOf s t d l else -1) := fun h => by
    rw [if_neg h]
    exact Ev.step (fun k => by rw [deadlines_Due.j0, if_pos rfl]) (Ev.now _)
  unfold deadlines_Due.f
  refine (ev_valid d g b ls).bind ?_
  by_cases h1 : Okay d g ls
  · refine ev_if_pos (decide_eq_true h1) ?_
    rw [istime]
    refine ev_some_bind ?_
    by_cases h2 : IsT t
    · rw [decide_eq_true h2, if_pos ⟨h1, h2⟩]
      refine Ev.step (fun k => by rw [deadlines_Due.j0]) ?_
      exact ev_if_neg (by decide) (ev_due_l l hl s t l.length 0 d rfl (Nat.zero_le _))
    · rw [decide_eq_false h2]
      exact bad (fun h => h2 h.2)
  · exact ev_if_neg (by rw [decide_eq_false h1]; decide) (bad (fun h => h1 h.1))

/-! ### the lateness -/
def lateOf (d g : Int) (ls : List S34) (a c : Int) : Int := if Okay d g ls ∧ IsT a ∧ IsT c then (if wrap64 (c - a) > g then wrap64 (c - a) else 0) else -1
theorem ev_Late (d g : Int) (b : Bool) (ls : List S34) (a c : Int) : Ev (fun k => deadlines_Late.f k d g b ls a c) (lateOf d g ls a c) := by
  have bad : ¬ (Okay d g ls ∧ IsT a ∧ IsT c) → Ev (fun k => deadlines_Late.j0 k a c true d g b ls) (lateOf d g ls a c) := fun h => by
    unfold lateOf
    rw [if_neg h]
    exact Ev.step (fun k => by rw [deadlines_Late.j0, if_pos rfl]) (Ev.now _)
  unfold deadlines_Late.f
  refine (ev_valid d g b ls).bind ?_
  by_cases h1 : Okay d g ls
  · refine ev_if_pos (decide_eq_true h1) ?_
    rw [istime, istime]
    refine ev_some_bind ?_
    by_cases h2 : IsT a
    · refine ev_if_pos (decide_eq_true h2) (ev_some_bind ?_)
      by_cases h3 : IsT c
      · rw [decide_eq_true h3]
        unfold lateOf
        rw [if_pos ⟨h1, h2, h3⟩]
        refine Ev.step (fun k => by rw [deadlines_Late.j0]) (ev_if_neg (by decide) ?_)
        by_cases h4 : wrap64 (c - a) > g
        · refine ev_if_pos h4 ?_; rw [if_pos h4]; exact Ev.now _
        · refine ev_if_neg h4 ?_; rw [if_neg h4]; exact Ev.now _
      · rw [decide_eq_false h3]
        exact bad (fun h => h3 h.2.2)
    · exact ev_if_neg (by rw [decide_eq_false h2]; decide) (bad (fun h => h2 h.2.1))
  · exact ev_if_neg (by rw [decide_eq_false h1]; decide) (bad (fun h => h1 h.1))

/-! ### the law's bounds -/
theorem ev_few_l (d g : Int) (b : Bool) (ls : List S34) (l : List S49) (hl : l.length ≤ 9223372036854775807) (s : ByteArray) (m : Nat) : ∀ (i : Nat), l.length - i = m → i ≤ l.length →
    ∃ r : Bool, (r = true → ls.length ≤ 20 ∧ l.length ≤ 30) ∧ Ev (fun k => assessorlaw51_few.l0 k l s l (l.length : Int) (i : Int) d g b ls) r := by
  induction m with
  | zero =>
    intro i hm hi
    by_cases h1 : (ls.length : Int) ≤ 20
    · by_cases h2 : (l.length : Int) ≤ 30
      · exact ⟨decide ((s.size : Int) ≤ 40), fun _ => ⟨by omega, by omega⟩, Ev.step (fun k => by rw [assessorlaw51_few.l0, if_neg (by omega), if_pos h1, if_pos h2]) (Ev.now _)⟩
      · exact ⟨false, (fun h => by cases h), Ev.step (fun k => by rw [assessorlaw51_few.l0, if_neg (by omega), if_pos h1, if_neg h2]) (Ev.now _)⟩
    · exact ⟨false, (fun h => by cases h), Ev.step (fun k => by rw [assessorlaw51_few.l0, if_neg (by omega), if_neg h1]) (Ev.now _)⟩
  | succ m ih =>
    intro i hm hi
    obtain ⟨q1, q2, hlt⟩ := nsub hm
    have b0 : (0 : Int) ≤ (i : Int) := Int.natCast_nonneg i
    have b1 : (i : Int) < (l.length : Int) := Int.ofNat_lt.mpr hlt
    have w : wrap64 ((i : Int) + 1) = ((i + 1 : Nat) : Int) := by rw [w64 (by omega)]; omega
    by_cases h : (((rd_T49 l i).f0).size : Int) > 40
    · exact ⟨false, (fun h => by cases h), Ev.step (fun k => by rw [assessorlaw51_few.l0]) (ev_if_pos b1 (ev_if_pos b0 (ev_if_pos b1 (ev_if_pos h (Ev.now _)))))⟩
    · obtain ⟨r, hr, he⟩ := ih (i + 1) q1 q2
      refine ⟨r, hr, Ev.step (fun k => by rw [assessorlaw51_few.l0]) (ev_if_pos b1 (ev_if_pos b0 (ev_if_pos b1 (ev_if_neg h ?_))))⟩
      rw [w]
      exact he
theorem ev_few (d g : Int) (b : Bool) (ls : List S34) (l : List S49) (hl : l.length ≤ 9223372036854775807) (s : ByteArray) :
    ∃ r : Bool, (r = true → ls.length ≤ 20 ∧ l.length ≤ 30) ∧ Ev (fun k => assessorlaw51_few.f k d g b ls l s) r :=
  ev_few_l d g b ls l hl s l.length 0 rfl (Nat.zero_le _)

end Go.Proofs.Ytbehhijmcnoeeaa.Plain
