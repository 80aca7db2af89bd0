/- What the deadlines package's functions compute, as plain numbers: greatest common divisors, fractions in lowest terms, valid policies, the factor of a lateness and its properties; conditions as written in each lemma. -/
import Derived.Test.YtbehhijmcnoeeaaXAx10
import Derived.Test.YtbehhijmcnoeeaaXAx6
import Derived.Test.YtbehhijmcnoeeaaXAx9
namespace Go.Proofs.Ytbehhijmcnoeeaa.Plain
open Go.RowKit Go.Proofs.Ytbehhijmcnoeeaa.XA Go.Proofs.YtbehhijmcnoeeaaW.PrintWords Go.Proofs.YtbehhijmcnoeeaaW.PrintLast

theorem w64 {n : Int} (h : -9223372036854775808 ≤ n ∧ n ≤ 9223372036854775807) : wrap64 n = n := by unfold wrap64; omega
theorem ev_if_pos {α : Type} {c : Prop} [Decidable c] {g f : Nat → Option α} {r : α} (hc : c) (h : Ev g r) : Ev (fun k => if c then g k else f k) r := h.congr (fun _ => if_pos hc)
theorem ev_if_neg {α : Type} {c : Prop} [Decidable c] {g f : Nat → Option α} {r : α} (hc : ¬ c) (h : Ev f r) : Ev (fun k => if c then g k else f k) r := h.congr (fun _ => if_neg hc)
theorem ev_some_bind {α β : Type} {a : α} {f : Nat → α → Option β} {r : β} (h : Ev (fun k => f k a) r) : Ev (fun k => (some a).bind (f k)) r := h

/-! ### greatest common divisors -/
theorem tmod_nat (m n : Nat) : Int.tmod (m : Int) (n : Int) = ((m % n : Nat) : Int) := by
  rw [Int.tmod_eq_emod_of_nonneg (by omega)]; simp
theorem gcd_turn (m n : Nat) : Nat.gcd n (m % n) = Nat.gcd m n := by
  rw [Nat.gcd_comm n (m % n), ← Nat.gcd_rec, Nat.gcd_comm]
theorem ev_divisor (n : Nat) : ∀ m : Nat, Ev (fun k => fraction_divisor.f k m n) ((Nat.gcd m n : Nat) : Int) := by
  induction n using Nat.strongRecOn with
  | _ n ih =>
    intro m
    by_cases h : n = 0
    · subst h
      exact Ev.step (f := fun _ => some (m : Int)) (fun k => by simp [fraction_divisor.f, fraction_divisor.l0]) (by rw [Nat.gcd_zero_right]; exact Ev.now _)
    · refine Ev.step (f := fun k => fraction_divisor.f k n ((m % n : Nat) : Int)) (fun k => ?_) ?_
      · show fraction_divisor.l0 (k + 1) _ _ = _
        rw [fraction_divisor.l0, if_pos (by omega), if_neg (by omega), tmod_nat]; rfl
      · rw [← gcd_turn]
        exact ih _ (Nat.mod_lt _ (by omega)) n
theorem ev_gcd46 (n : Nat) : ∀ m : Nat, Ev (fun k => assessorref46_gcd.f k m n) ((Nat.gcd m n : Nat) : Int) := by
  have key : ∀ n m : Nat, Ev (fun k => assessorref46_gcd.l0 k m n) ((Nat.gcd m n : Nat) : Int) := by
    intro n
    induction n using Nat.strongRecOn with
    | _ n ih =>
      intro m
      by_cases h : n = 0
      · subst h
        exact Ev.step (f := fun _ => some (m : Int)) (fun k => by simp [assessorref46_gcd.l0]) (by rw [Nat.gcd_zero_right]; exact Ev.now _)
      · refine Ev.step (f := fun k => assessorref46_gcd.l0 k n ((m % n : Nat) : Int)) (fun k => ?_) ?_
        · rw [assessorref46_gcd.l0, if_pos (by omega), if_neg (by omega), tmod_nat]
        · rw [← gcd_turn]
          exact ih _ (Nat.mod_lt _ (by omega)) n
  intro m
  unfold assessorref46_gcd.f
  refine ev_if_neg (by omega) ?_
  exact Ev.step (f := fun k => assessorref46_gcd.l0 k m n) (fun k => by rw [assessorref46_gcd.j0]) (key n m)

/-! ### fractions that are not negative -/
theorem ev_abs (n : Nat) (h : n ≤ 1000000000) : fraction_abs.f n = some (n : Int) := by
  unfold fraction_abs.f mx
  rw [w64 (by omega), if_neg (by omega)]
theorem ev_fvalid (n d : Nat) (hn : n ≤ 1000000000) (hd : 1 ≤ d) (hd' : d ≤ 1000000) (hg : Nat.gcd n d = 1) : Ev (fun k => fraction_Valid.f k n d) true := by
  unfold fraction_Valid.f
  refine ev_if_pos (by omega) (ev_if_pos (by omega) (ev_if_pos (by omega) (ev_if_pos (by omega) ?_)))
  rw [ev_abs n hn]
  refine ev_some_bind ?_
  have h := ev_divisor d n
  rw [hg] at h
  exact h.bind (Ev.now _)
theorem ev_valid46 (n d : Nat) (hn : n ≤ 1000000000) (hd : 1 ≤ d) (hd' : d ≤ 1000000) (hg : Nat.gcd n d = 1) : Ev (fun k => assessorref46_Valid.f k n d) true := by
  unfold assessorref46_Valid.f
  refine ev_if_pos (by omega) (ev_if_pos (by omega) (ev_if_pos (by omega) (ev_if_pos (by omega) ?_)))
  have h := ev_gcd46 d n
  rw [hg] at h
  exact h.bind (Ev.now _)

theorem tdiv_nat (m n : Nat) : Int.tdiv (m : Int) (n : Int) = ((m / n : Nat) : Int) := by
  rw [Int.tdiv_eq_ediv_of_nonneg (by omega)]; simp

/-- n / d in lowest terms. -/
def low (n d : Nat) : Nat × Nat := (n / Nat.gcd n d, d / Nat.gcd n d)
theorem low_gcd (n d : Nat) (hd : 1 ≤ d) : Nat.gcd (low n d).1 (low n d).2 = 1 := Nat.gcd_div_gcd_div_gcd_of_pos_right hd
theorem low_pos (n d : Nat) (hd : 1 ≤ d) : 1 ≤ (low n d).2 := Nat.div_pos (Nat.gcd_le_right _ hd) (Nat.gcd_pos_of_pos_right _ hd)
theorem low_le1 (n d : Nat) : (low n d).1 ≤ n := Nat.div_le_self _ _
theorem low_le2 (n d : Nat) : (low n d).2 ≤ d := Nat.div_le_self _ _
theorem low_mul (n d : Nat) : (low n d).1 * Nat.gcd n d = n ∧ (low n d).2 * Nat.gcd n d = d := ⟨Nat.div_mul_cancel (Nat.gcd_dvd_left _ _), Nat.div_mul_cancel (Nat.gcd_dvd_right _ _)⟩

theorem ev_make (n d : Nat) (hn : n ≤ 1000000) (hd : 1 ≤ d) (hd' : d ≤ 1000000) : Ev (fun k => fraction_Make.f k n d) (((low n d).1 : Int), ((low n d).2 : Int), (0 : Int)) := by
  have hg : 1 ≤ Nat.gcd n d := Nat.gcd_pos_of_pos_right _ hd
  unfold fraction_Make.f
  refine ev_if_neg (by omega) ?_
  have h1 : fraction_Make_1.f (n : Int) = some true := by unfold fraction_Make_1.f; rw [if_pos (by omega)]; simp; omega
  have h2 : fraction_Make_1.f (d : Int) = some true := by unfold fraction_Make_1.f; rw [if_pos (by omega)]; simp; omega
  rw [h1, h2]
  refine ev_some_bind (ev_if_pos rfl (ev_some_bind (ev_if_pos rfl ?_)))
  have hr : Ev (fun k => fraction_reduced.f k n d) (((low n d).1 : Int), ((low n d).2 : Int), (0 : Int)) := by
    unfold fraction_reduced.f
    refine ev_if_neg (by omega) ?_
    refine Ev.step (fun k => by rw [fraction_reduced.j0]) ?_
    rw [ev_abs n (by omega)]
    refine ev_some_bind ((ev_divisor d n).bind (ev_if_neg (by omega) ?_))
    rw [tdiv_nat, tdiv_nat]
    have l1 := low_le1 n d
    have l2 := low_le2 n d
    rw [show n / n.gcd d = (low n d).1 from rfl, show d / n.gcd d = (low n d).2 from rfl]
    rw [w64 (by omega), w64 (by omega)]
    exact (ev_fvalid (low n d).1 (low n d).2 (by have := low_le1 n d; omega) (low_pos n d hd) (by have := low_le2 n d; omega) (low_gcd n d hd)).bind (ev_if_pos rfl (Ev.now _))
  exact hr.bind (Ev.now _)

theorem ev_make46 (n d : Nat) (hn : n ≤ 1000000) (hd : 1 ≤ d) (hd' : d ≤ 1000000) : Ev (fun k => assessorref46_Make.f k n d) (((low n d).1 : Int), ((low n d).2 : Int), (0 : Int)) := by
  have hg : 1 ≤ Nat.gcd n d := Nat.gcd_pos_of_pos_right _ hd
  have l1 := low_le1 n d
  have l2 := low_le2 n d
  have hr : Ev (fun k => assessorref46_reduce.f k n d) (((low n d).1 : Int), ((low n d).2 : Int), (0 : Int)) := by
    unfold assessorref46_reduce.f
    refine ev_if_neg (by omega) ?_
    refine Ev.step (fun k => by rw [assessorref46_reduce.j0]) ?_
    refine (ev_gcd46 d n).bind (ev_if_neg (by omega) ?_)
    rw [tdiv_nat, tdiv_nat]
    rw [show n / n.gcd d = (low n d).1 from rfl, show d / n.gcd d = (low n d).2 from rfl]
    rw [w64 (by omega), w64 (by omega)]
    refine ev_if_neg (by omega) (ev_if_neg (by omega) ?_)
    refine Ev.step (fun k => by rw [assessorref46_reduce.j1]) (ev_if_neg (by simp; omega) (Ev.now _))
  unfold assessorref46_Make.f
  refine ev_if_neg (by omega) (ev_if_neg (by omega) (ev_if_neg (by omega) (ev_if_neg (by omega) ?_)))
  refine Ev.step (fun k => by rw [assessorref46_Make.j0]) (ev_if_neg (by simp; omega) ?_)
  exact hr.bind (Ev.now _)

/-- The comparison of two fractions in lowest terms, by their cross products. -/
def cmp3 (x y : Nat) : Int := if x < y then -1 else if x > y then 1 else 0
theorem ev_compare (a b c d : Nat) (ha : a ≤ 1000000) (hb : 1 ≤ b) (hb' : b ≤ 1000000) (hc : c ≤ 1000000) (hd : 1 ≤ d) (hd' : d ≤ 1000000) (h1 : Nat.gcd a b = 1) (h2 : Nat.gcd c d = 1) :
    Ev (fun k => assessorref46_Compare.f k a b c d) (cmp3 (a * d) (c * b), true) := by
  unfold assessorref46_Compare.f
  refine (ev_valid46 a b (by omega) hb hb' h1).bind (ev_if_pos rfl ((ev_valid46 c d (by omega) hd hd' h2).bind ?_))
  refine Ev.step (fun k => by rw [assessorref46_Compare.j0]) (ev_if_neg (by decide) ?_)
  have e1 : a * d ≤ 1000000 * 1000000 := Nat.mul_le_mul ha hd'
  have e2 : c * b ≤ 1000000 * 1000000 := Nat.mul_le_mul hc hb'
  have w1 : wrap64 ((a : Int) * d) = ((a * d : Nat) : Int) := by rw [← Int.natCast_mul]; exact w64 (by omega)
  have w2 : wrap64 ((c : Int) * b) = ((c * b : Nat) : Int) := by rw [← Int.natCast_mul]; exact w64 (by omega)
  rw [w1, w2]
  unfold cmp3
  by_cases hlt : a * d < c * b
  · rw [if_pos hlt]
    exact ev_if_pos (by omega) (Ev.now _)
  · rw [if_neg hlt]
    refine ev_if_neg (by omega) ?_
    by_cases hgt : a * d > c * b
    · rw [if_pos hgt]
      exact ev_if_pos (by omega) (Ev.now _)
    · rw [if_neg hgt]
      exact ev_if_neg (by omega) (Ev.now _)

end Go.Proofs.Ytbehhijmcnoeeaa.Plain
