/- The factor of a lateness of a valid policy: between 0 and 10000, never rising with the lateness; of a linear policy what its knots say. Conditions as written in each lemma. -/
import Derived.Test.YtbehhijmcnoeeaaPlainValid
import Derived.Test.YtbehhijmcnoeeaaXAx7
namespace Go.Proofs.Ytbehhijmcnoeeaa.Plain
open Go.RowKit Go.Proofs.Ytbehhijmcnoeeaa.XA Go.Proofs.YtbehhijmcnoeeaaW.PrintWords Go.Proofs.YtbehhijmcnoeeaaW.PrintLast

/-- All steps of a list are right. -/
def Right (ls : List S34) : Prop := ∀ i, i < ls.length → StepOk ls i
theorem Right.f0_lt {ls : List S34} (h : Right ls) : ∀ (m i : Nat), i + (m + 1) < ls.length → (rd_T34 ls i).f0 < (rd_T34 ls ((i + (m + 1) : Nat) : Int)).f0 := by
  intro m
  induction m with
  | zero => intro i hi; exact ((h (i + 1) hi).2.2 (by omega)).1
  | succ m ih =>
    intro i hi
    have h1 := ih i (by omega)
    have h2 := ((h (i + (m + 1 + 1)) hi).2.2 (by omega)).1
    have e : i + (m + 1 + 1) - 1 = i + (m + 1) := by omega
    rw [e] at h2
    omega
theorem Right.f0_mono {ls : List S34} (h : Right ls) {i j : Nat} (hij : i ≤ j) (hj : j < ls.length) : (rd_T34 ls i).f0 ≤ (rd_T34 ls j).f0 := by
  rcases Nat.eq_or_lt_of_le hij with rfl | hlt
  · exact Int.le_refl _
  · have := h.f0_lt (j - i - 1) i (by omega)
    have e : i + (j - i - 1 + 1) = j := by omega
    rw [e] at this
    omega
theorem Right.f1_le {ls : List S34} (h : Right ls) : ∀ (m i : Nat), i + m < ls.length → (rd_T34 ls ((i + m : Nat) : Int)).f1 ≤ (rd_T34 ls i).f1 := by
  intro m
  induction m with
  | zero => intro i _; exact Int.le_refl _
  | succ m ih =>
    intro i hi
    have h1 := ih i (by omega)
    have h2 := ((h (i + (m + 1)) hi).2.2 (by omega)).2
    have e : i + (m + 1) - 1 = i + m := by omega
    rw [e] at h2
    omega
theorem Right.f1_anti {ls : List S34} (h : Right ls) {i j : Nat} (hij : i ≤ j) (hj : j < ls.length) : (rd_T34 ls j).f1 ≤ (rd_T34 ls i).f1 := by
  have := h.f1_le (j - i) i (by omega)
  have e : i + (j - i) = j := by omega
  rwa [e] at this

/-! ### steps -/
/-- The percentage behind i steps. -/
def per (ls : List S34) (i : Nat) : Int := if i = 0 then 100 else (rd_T34 ls ((i - 1 : Nat) : Int)).f1
/-- c steps begin before t. -/
def Cut (ls : List S34) (t : Int) (c : Nat) : Prop := c ≤ ls.length ∧ (∀ i, i < c → (rd_T34 ls i).f0 < t) ∧ (∀ i, c ≤ i → i < ls.length → t ≤ (rd_T34 ls i).f0)
theorem cut_of {ls : List S34} (h : Right ls) (t : Int) : ∃ c, Cut ls t c := by
  have key : ∀ m, m ≤ ls.length → ∃ c, c ≤ m ∧ (∀ i, i < c → (rd_T34 ls i).f0 < t) ∧ (∀ i, c ≤ i → i < m → t ≤ (rd_T34 ls i).f0) := by
    intro m
    induction m with
    | zero => exact fun _ => ⟨0, Nat.le_refl _, fun i hi => by omega, fun i _ hi => by omega⟩
    | succ m ih =>
      intro hm
      obtain ⟨c, hc, h1, h2⟩ := ih (by omega)
      by_cases hlt : (rd_T34 ls m).f0 < t
      · refine ⟨m + 1, Nat.le_refl _, fun i hi => ?_, fun i _ _ => by omega⟩
        have := h.f0_mono (i := i) (j := m) (by omega) (by omega)
        omega
      · refine ⟨c, by omega, h1, fun i hi hi' => ?_⟩
        rcases Nat.eq_or_lt_of_le (Nat.lt_succ_iff.1 hi') with rfl | h3
        · omega
        · exact h2 i hi h3
  obtain ⟨c, hc, h1, h2⟩ := key ls.length (Nat.le_refl _)
  exact ⟨c, hc, h1, h2⟩
theorem cut_mono {ls : List S34} {t t' : Int} {c c' : Nat} (h : Cut ls t c) (h' : Cut ls t' c') (ht : t ≤ t') : c ≤ c' := by
  rcases Nat.lt_or_ge c' c with hlt | hge
  · have h1 := h.2.1 c' hlt
    have h2 := h'.2.2 c' (Nat.le_refl _) (Nat.lt_of_lt_of_le hlt h.1)
    omega
  · exact hge
theorem per_anti {ls : List S34} (h : Right ls) {i j : Nat} (hij : i ≤ j) (hj : j ≤ ls.length) : per ls j ≤ per ls i := by
  unfold per
  by_cases hi : i = 0
  · rw [if_pos hi]
    split
    · omega
    · exact (h (j - 1) (by omega)).2.1.2
  · rw [if_neg hi, if_neg (by omega)]
    exact h.f1_anti (by omega) (by omega)
theorem per_bd {ls : List S34} (h : Right ls) {i : Nat} (hi : i ≤ ls.length) : 0 ≤ per ls i ∧ per ls i ≤ 100 := by
  unfold per
  split
  · omega
  · exact (h (i - 1) (by omega)).2.1

theorem ev_stepped_l {ls : List S34} (h : Right ls) (hl : ls.length ≤ 16) (t : Int) (c : Nat) (hc : Cut ls t c) (m : Nat) : ∀ (i : Nat) (x : Int), ls.length - i = m → i ≤ ls.length → (i ≤ c ∧ x = per ls i ∨ c ≤ i ∧ x = per ls c) →
    Ev (fun k => deadlines_stepped.l0 k t x ls (ls.length : Int) (i : Int)) (100 * per ls c) := by
  induction m with
  | zero =>
    intro i x hm hi hx
    have e : x = per ls c := by
      rcases hx with ⟨h1, h2⟩ | ⟨h1, h2⟩
      · have : i = c := by have := hc.1; omega
        rw [h2, this]
      · exact h2
    have hb := per_bd h hc.1
    refine Ev.step (f := fun _ => some (100 * per ls c)) (fun k => by rw [deadlines_stepped.l0, if_neg (by omega), e, w64 (by omega)]) (Ev.now _)
  | succ m ih =>
    intro i x hm hi hx
    have hlt : i < ls.length := by omega
    refine Ev.step (fun k => by rw [deadlines_stepped.l0]) (ev_if_pos (by omega) (ev_if_pos (by omega) (ev_if_pos (by omega) ?_)))
    rw [show wrap64 ((i : Int) + 1) = ((i + 1 : Nat) : Int) from by rw [w64 (by omega)]; omega]
    by_cases hf : (rd_T34 ls i).f0 < t
    · refine ev_if_pos hf (ih (i + 1) _ (by omega) (by omega) (.inl ⟨?_, ?_⟩))
      · rcases Nat.lt_or_ge i c with h1 | h1
        · exact h1
        · have := hc.2.2 i h1 hlt; omega
      · unfold per; rw [if_neg (by omega)]; rfl
    · refine ev_if_neg hf (ih (i + 1) _ (by omega) (by omega) (.inr ⟨?_, ?_⟩))
      · rcases Nat.lt_or_ge i c with h1 | h1
        · have := hc.2.1 i h1; omega
        · omega
      · rcases hx with ⟨h1, h2⟩ | ⟨h1, h2⟩
        · have : i = c := by
            rcases Nat.lt_or_ge i c with h3 | h3
            · have := hc.2.1 i h3; omega
            · omega
          rw [h2, this]
        · exact h2

/-! ### knots -/
def interp (x y : S34) (t : Int) : Int := 100 * (x.f1 * (y.f0 - t) + y.f1 * (t - x.f0)) / (y.f0 - x.f0)
theorem mul_bd {a b : Int} {A B : Int} (h0 : 0 ≤ a) (h1 : a ≤ A) (h2 : 0 ≤ b) (h3 : b ≤ B) : 0 ≤ a * b ∧ a * b ≤ A * B :=
  ⟨Int.mul_nonneg h0 h2, Int.mul_le_mul h1 h3 h2 (Int.le_trans h0 h1)⟩
/-- The two terms of an interpolation, bounded by the ends'. -/
theorem interp_terms {p q a b t : Int} (hp : IsP p) (hq : IsP q) (hqp : q ≤ p) (ha : a ≤ t) (hb : t ≤ b) (h0 : 0 ≤ a) (h1 : b ≤ MT) :
    0 ≤ p * (b - t) ∧ p * (b - t) ≤ 109951162777600 ∧ 0 ≤ q * (t - a) ∧ q * (t - a) ≤ 109951162777600 ∧ q * (b - a) ≤ p * (b - t) + q * (t - a) ∧ p * (b - t) + q * (t - a) ≤ p * (b - a) := by
  unfold IsP at hp hq
  unfold MT at h1
  have m1 := mul_bd (a := p) (b := b - t) (A := 100) (B := 1099511627776) hp.1 hp.2 (by omega) (by omega)
  have m2 := mul_bd (a := q) (b := t - a) (A := 100) (B := 1099511627776) hq.1 hq.2 (by omega) (by omega)
  have e1 : q * (b - a) = q * (b - t) + q * (t - a) := by rw [← Int.mul_add]; congr 1; omega
  have e2 : p * (b - a) = p * (b - t) + p * (t - a) := by rw [← Int.mul_add]; congr 1; omega
  have l1 : q * (b - t) ≤ p * (b - t) := Int.mul_le_mul_of_nonneg_right hqp (by omega)
  have l2 : q * (t - a) ≤ p * (t - a) := Int.mul_le_mul_of_nonneg_right hqp (by omega)
  omega
theorem interp_bd {x y : S34} {t : Int} (hx : IsP x.f1) (hy : IsP y.f1) (hqp : y.f1 ≤ x.f1) (ha : x.f0 ≤ t) (hb : t ≤ y.f0) (hlt : x.f0 < y.f0) (h0 : 0 ≤ x.f0) (h1 : y.f0 ≤ MT) :
    100 * y.f1 ≤ interp x y t ∧ interp x y t ≤ 100 * x.f1 := by
  have ht := interp_terms hx hy hqp ha hb h0 h1
  unfold interp
  constructor
  · rw [Int.le_ediv_iff_mul_le (by omega)]
    have : 100 * y.f1 * (y.f0 - x.f0) = 100 * (y.f1 * (y.f0 - x.f0)) := Int.mul_assoc _ _ _
    omega
  · have : interp x y t < 100 * x.f1 + 1 := by
      unfold interp
      rw [Int.ediv_lt_iff_lt_mul (by omega)]
      have e : (100 * x.f1 + 1) * (y.f0 - x.f0) = 100 * (x.f1 * (y.f0 - x.f0)) + (y.f0 - x.f0) := by rw [Int.add_mul, Int.mul_assoc]; omega
      omega
    unfold interp at this
    omega
theorem interp_anti {x y : S34} {t t' : Int} (hqp : y.f1 ≤ x.f1) (hlt : x.f0 < y.f0) (ht : t ≤ t') : interp x y t' ≤ interp x y t := by
  unfold interp
  refine Int.ediv_le_ediv (by omega) ?_
  have e1 : x.f1 * (y.f0 - t) = x.f1 * (y.f0 - t') + x.f1 * (t' - t) := by rw [← Int.mul_add]; congr 1; omega
  have e2 : y.f1 * (t' - x.f0) = y.f1 * (t - x.f0) + y.f1 * (t' - t) := by rw [← Int.mul_add]; congr 1; omega
  have l : y.f1 * (t' - t) ≤ x.f1 * (t' - t) := Int.mul_le_mul_of_nonneg_right hqp (by omega)
  omega
theorem interp_left {x y : S34} (hlt : x.f0 < y.f0) : interp x y x.f0 = 100 * x.f1 := by
  unfold interp
  rw [Int.sub_self, Int.mul_zero, Int.add_zero, ← Int.mul_assoc]
  exact Int.mul_ediv_cancel _ (by omega)
theorem interp_right {x y : S34} (hlt : x.f0 < y.f0) : interp x y y.f0 = 100 * y.f1 := by
  unfold interp
  rw [Int.sub_self, Int.mul_zero, Int.zero_add, ← Int.mul_assoc]
  exact Int.mul_ediv_cancel _ (by omega)

/-- The knots of a linear policy. -/
structure Knots (kn : List S34) : Prop where
  right : Right kn
  pos : 0 < kn.length
  zero : (rd_T34 kn 0).f0 = 0
theorem rd_zero_cons (x : S34) (l : List S34) : rd_T34 (x :: l) 0 = x := rfl
theorem rd_succ_cons (x : S34) (l : List S34) (i : Nat) : rd_T34 (x :: l) ((i + 1 : Nat) : Int) = rd_T34 l i := by
  unfold rd_T34
  rw [Int.toNat_natCast, Int.toNat_natCast]
  rfl
theorem knots_of {ls : List S34} (h : Right ls) : Knots (deadlines_linear.knots ls) := by
  unfold deadlines_linear.knots
  by_cases h0 : ls.length = 0
  · rw [if_pos h0]
    refine ⟨fun i hi => ?_, by simp, rfl⟩
    simp at hi
    subst hi
    exact ⟨by decide, by decide, fun h => by omega⟩
  · rw [if_neg h0]
    by_cases h1 : (rd_T34 ls 0).f0 = 0
    · rw [if_pos h1]
      exact ⟨h, by omega, h1⟩
    · rw [if_neg h1]
      refine ⟨fun i hi => ?_, by simp, rfl⟩
      cases i with
      | zero => exact ⟨(by decide : IsT 0), (by decide : IsP 100), fun h => by omega⟩
      | succ i =>
        have hi' : i < ls.length := by simpa using hi
        have hs := h i hi'
        unfold StepOk
        rw [rd_succ_cons, show i + 1 - 1 = i from rfl]
        refine ⟨hs.1, hs.2.1, fun _ => ?_⟩
        cases i with
        | zero =>
          have e : rd_T34 ((⟨0, 100⟩ : S34) :: ls) ((0 : Nat) : Int) = ⟨0, 100⟩ := rfl
          rw [e]
          have := hs.1
          have h3 := hs.2.1
          unfold IsT at this
          unfold IsP at h3
          simp only
          have h4 : (rd_T34 ls ((0 : Nat) : Int)).f0 ≠ 0 := h1
          omega
        | succ j =>
          rw [rd_succ_cons]
          exact hs.2.2 (by omega)

/-- t lies from knot c - 1 on and before knot c; v is the factor there. -/
def Lin (kn : List S34) (t v : Int) : Prop :=
  ∃ c : Nat, 1 ≤ c ∧ c ≤ kn.length ∧ (rd_T34 kn ((c - 1 : Nat) : Int)).f0 ≤ t ∧ (c < kn.length → t < (rd_T34 kn c).f0) ∧ v = if c < kn.length then interp (rd_T34 kn ((c - 1 : Nat) : Int)) (rd_T34 kn c) t else 100 * (rd_T34 kn ((c - 1 : Nat) : Int)).f1

theorem go_val {kn : List S34} (h : Knots kn) {t : Int} (ht : IsT t) (m : Nat) : ∀ i : Nat, kn.length - i = m → 1 ≤ i → i ≤ kn.length → (rd_T34 kn ((i - 1 : Nat) : Int)).f0 ≤ t →
    ∃ v, deadlines_linear.go t false (rd_T34 kn ((i - 1 : Nat) : Int)) (kn.drop i) = some v ∧ Lin kn t v := by
  induction m with
  | zero =>
    intro i hm h1 hi hle
    have e : i = kn.length := by omega
    subst e
    have hp := (h.right (kn.length - 1) (by omega)).2.1
    unfold IsP at hp
    refine ⟨_, by rw [List.drop_length, deadlines_linear.go, w64 (by omega)], kn.length, h1, Nat.le_refl _, hle, fun h => by omega, by rw [if_neg (by omega)]⟩
  | succ m ih =>
    intro i hm h1 hi hle
    have hlt : i < kn.length := by omega
    rw [deadlines_linear.go_step t kn i hlt]
    have hs := h.right i hlt
    have hs' := h.right (i - 1) (by omega)
    by_cases hf : t < (rd_T34 kn i).f0
    · rw [if_pos ⟨rfl, hf⟩]
      have hst := hs.2.2 (by omega)
      have t0 := hs.1
      have t1 := hs'.1
      have p0 := hs.2.1
      have p1 := hs'.2.1
      unfold IsT MT at t0 t1 ht
      have hterm := interp_terms (p := (rd_T34 kn ((i - 1 : Nat) : Int)).f1) (q := (rd_T34 kn i).f1) (a := (rd_T34 kn ((i - 1 : Nat) : Int)).f0) (b := (rd_T34 kn i).f0) (t := t) p1 p0 hst.2 hle (by omega) t1.1 t0.2
      have hbd := interp_bd (x := rd_T34 kn ((i - 1 : Nat) : Int)) (y := rd_T34 kn i) (t := t) p1 p0 hst.2 hle (by omega) hst.1 t1.1 t0.2
      unfold IsP at p0 p1
      have e1 : wrap64 ((rd_T34 kn i).f0 - (rd_T34 kn ((i - 1 : Nat) : Int)).f0) = (rd_T34 kn i).f0 - (rd_T34 kn ((i - 1 : Nat) : Int)).f0 := w64 (by omega)
      have e2 : wrap64 ((rd_T34 kn i).f0 - t) = (rd_T34 kn i).f0 - t := w64 (by omega)
      have e3 : wrap64 (t - (rd_T34 kn ((i - 1 : Nat) : Int)).f0) = t - (rd_T34 kn ((i - 1 : Nat) : Int)).f0 := w64 (by omega)
      rw [e1, e2, e3, if_neg (by omega)]
      rw [w64 (n := (rd_T34 kn ((i - 1 : Nat) : Int)).f1 * _) (by omega), w64 (n := (rd_T34 kn i).f1 * _) (by omega), w64 (n := _ + _) (by omega), w64 (n := 100 * _) (by omega)]
      rw [Int.tdiv_eq_ediv_of_nonneg (by omega)]
      have e4 : 100 * ((rd_T34 kn ((i - 1 : Nat) : Int)).f1 * ((rd_T34 kn i).f0 - t) + (rd_T34 kn i).f1 * (t - (rd_T34 kn ((i - 1 : Nat) : Int)).f0)) / ((rd_T34 kn i).f0 - (rd_T34 kn ((i - 1 : Nat) : Int)).f0) = interp (rd_T34 kn ((i - 1 : Nat) : Int)) (rd_T34 kn i) t := rfl
      rw [e4, w64 (by omega)]
      exact ⟨_, rfl, i, h1, by omega, hle, fun _ => hf, by rw [if_pos hlt]⟩
    · rw [if_neg (fun h => hf h.2)]
      have := ih (i + 1) (by omega) (by omega) (by omega) (by rw [show i + 1 - 1 = i from rfl]; omega)
      rwa [show i + 1 - 1 = i from rfl] at this

theorem linear_val {ls : List S34} (h : Right ls) {t : Int} (ht : IsT t) (d g : Int) (b : Bool) : ∃ v, deadlines_linear.f d g b ls t = some v ∧ Lin (deadlines_linear.knots ls) t v := by
  have hk := knots_of h
  unfold deadlines_linear.f
  have e := deadlines_linear.go_step t (deadlines_linear.knots ls) 0 hk.pos z34 true
  rw [List.drop_zero, if_neg (by simp)] at e
  rw [e]
  exact go_val hk ht _ 1 rfl (Nat.le_refl _) hk.pos (by unfold IsT at ht; have := hk.zero; show (rd_T34 _ 0).f0 ≤ t; omega)

theorem lin_bd {kn : List S34} (h : Knots kn) {t v : Int} (hv : Lin kn t v) : 0 ≤ v ∧ v ≤ 10000 := by
  obtain ⟨c, h1, h2, h3, h4, rfl⟩ := hv
  have hp := (h.right (c - 1) (by omega)).2.1
  have ht := (h.right (c - 1) (by omega)).1
  by_cases hc : c < kn.length
  · rw [if_pos hc]
    have hq := (h.right c hc).2.1
    have htc := (h.right c hc).1
    have hs := (h.right c hc).2.2 (by omega)
    have := interp_bd hp hq hs.2 h3 (by have := h4 hc; omega) hs.1 ht.1 htc.2
    unfold IsP at hp hq
    omega
  · rw [if_neg hc]
    unfold IsP at hp
    omega
theorem lin_mono {kn : List S34} (h : Knots kn) {t t' v v' : Int} (hv : Lin kn t v) (hv' : Lin kn t' v') (ht : t ≤ t') : v' ≤ v := by
  obtain ⟨c, h1, h2, h3, h4, rfl⟩ := hv
  obtain ⟨c', h1', h2', h3', h4', rfl⟩ := hv'
  have hcc : c ≤ c' := by
    rcases Nat.lt_or_ge c' c with hlt | hge
    · have a1 := h4' (by omega)
      have a2 := h.right.f0_mono (i := c') (j := c - 1) (by omega) (by omega)
      omega
    · exact hge
  have tail : ∀ c', 1 ≤ c' → c' ≤ kn.length → (rd_T34 kn ((c' - 1 : Nat) : Int)).f0 ≤ t' → (c' < kn.length → t' < (rd_T34 kn c').f0) → (if c' < kn.length then interp (rd_T34 kn ((c' - 1 : Nat) : Int)) (rd_T34 kn c') t' else 100 * (rd_T34 kn ((c' - 1 : Nat) : Int)).f1) ≤ 100 * (rd_T34 kn ((c' - 1 : Nat) : Int)).f1 := by
    intro c' h1' h2' h3' h4'
    by_cases hc : c' < kn.length
    · rw [if_pos hc]
      have hs := (h.right c' hc).2.2 (by omega)
      exact (interp_bd (h.right (c' - 1) (by omega)).2.1 (h.right c' hc).2.1 hs.2 h3' (by have := h4' hc; omega) hs.1 (h.right (c' - 1) (by omega)).1.1 (h.right c' hc).1.2).2
    · rw [if_neg hc]; exact Int.le_refl _
  rcases Nat.eq_or_lt_of_le hcc with rfl | hlt
  · by_cases hc : c < kn.length
    · rw [if_pos hc, if_pos hc]
      have hs := (h.right c hc).2.2 (by omega)
      exact interp_anti hs.2 hs.1 ht
    · rw [if_neg hc, if_neg hc]; exact Int.le_refl _
  · have hc : c < kn.length := by omega
    rw [if_pos hc]
    have hs := (h.right c hc).2.2 (by omega)
    have b1 := (interp_bd (h.right (c - 1) (by omega)).2.1 (h.right c hc).2.1 hs.2 h3 (by have := h4 hc; omega) hs.1 (h.right (c - 1) (by omega)).1.1 (h.right c hc).1.2).1
    have b2 := h.right.f1_anti (i := c) (j := c' - 1) (by omega) (by omega)
    have b3 := tail c' h1' h2' h3' h4'
    omega

/-! ### the factor -/
/-- The factor of a lateness, in units of 1/10000. -/
def Fac (b : Bool) (ls : List S34) (t v : Int) : Prop :=
  (t = 0 ∧ v = 10000) ∨ (0 < t ∧ b = true ∧ Lin (deadlines_linear.knots ls) t v) ∨ (0 < t ∧ b = false ∧ ∃ c, Cut ls t c ∧ v = 100 * per ls c)

theorem fac_ev {ls : List S34} (h : Right ls) (hl : ls.length ≤ 16) {t : Int} (ht : IsT t) (d g : Int) (b : Bool) : ∃ v, Ev (fun k => deadlines_factor.f k d g b ls t) v ∧ Fac b ls t v := by
  unfold deadlines_factor.f
  by_cases h0 : t = 0
  · exact ⟨10000, ev_if_pos h0 (Ev.now _), .inl ⟨h0, rfl⟩⟩
  · have hpos : 0 < t := by unfold IsT at ht; omega
    cases b with
    | true =>
      obtain ⟨v, e, hv⟩ := linear_val h ht d g true
      refine ⟨v, ev_if_neg h0 (ev_if_pos rfl ?_), .inr (.inl ⟨hpos, rfl, hv⟩)⟩
      rw [e]
      exact Ev.now _
    | false =>
      obtain ⟨c, hc⟩ := cut_of h t
      refine ⟨100 * per ls c, ev_if_neg h0 (ev_if_neg (by decide) ?_), .inr (.inr ⟨hpos, rfl, c, hc, rfl⟩)⟩
      refine Ev.bind (g := fun k => deadlines_stepped.f k d g false ls t) ?_ (Ev.now _)
      exact ev_stepped_l h hl t c hc _ 0 100 rfl (Nat.zero_le _) (.inl ⟨Nat.zero_le _, rfl⟩)

theorem fac_bd {b : Bool} {ls : List S34} (h : Right ls) {t v : Int} (hv : Fac b ls t v) : 0 ≤ v ∧ v ≤ 10000 := by
  rcases hv with ⟨_, rfl⟩ | ⟨_, _, hv⟩ | ⟨_, _, c, hc, rfl⟩
  · omega
  · exact lin_bd (knots_of h) hv
  · have := per_bd h hc.1
    omega
theorem fac_mono {b : Bool} {ls : List S34} (h : Right ls) {t t' v v' : Int} (hv : Fac b ls t v) (hv' : Fac b ls t' v') (ht : t ≤ t') : v' ≤ v := by
  have hb := fac_bd h hv'
  rcases hv with ⟨_, rfl⟩ | ⟨h1, h2, hv⟩ | ⟨h1, h2, c, hc, rfl⟩
  · omega
  · rcases hv' with ⟨h3, rfl⟩ | ⟨_, _, hv'⟩ | ⟨_, h4, _⟩
    · omega
    · exact lin_mono (knots_of h) hv hv' ht
    · rw [h2] at h4; cases h4
  · rcases hv' with ⟨h3, rfl⟩ | ⟨_, h4, _⟩ | ⟨_, _, c', hc', rfl⟩
    · omega
    · rw [h2] at h4; cases h4
    · have := per_anti h (cut_mono hc hc' ht) hc'.1
      omega
theorem fac_one {b : Bool} {ls : List S34} (h : Right ls) {t v v' : Int} (hv : Fac b ls t v) (hv' : Fac b ls t v') : v = v' := by
  have h1 := fac_mono h hv hv' (Int.le_refl _)
  have h2 := fac_mono h hv' hv (Int.le_refl _)
  omega

end Go.Proofs.Ytbehhijmcnoeeaa.Plain
