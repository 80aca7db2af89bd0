/- Texts of this claim, one behind the other; each begins with what it proves. Conditions as written in each theorem. -/
import Derived.Test.YteaohgebocbehaaGreatDoorHC0
import Derived.Test.YteaohgebocbehaaGreatDoorHC1
import Derived.Test.YteaohgebocbehaaGreatDoorXAx3
import Derived.Test.YteaohgebocbehaaGreatDoorXAx5
import Derived.Test.YteaohgebocbehaaGreatDoorXAx6
import Derived.Test.YteaohgebocbehaaGreatDoorXAx16
section
/- The reference's IsClause and Valid answer as the plain functions. Conditions: lists shorter than 2^62. -/
set_option linter.unusedVariables false
set_option linter.unusedSimpArgs false
namespace Go.Proofs.YteaohgebocbehaaGreatDoor.Plain
open Go.RowKit Go.Proofs.YteaohgebocbehaaGreatDoor.XA Go.Proofs.YteaohgebocbehaaGreatDoorW.PrintWords
theorem rvar_f {x : Int} (h0 : -9223372036854775807 ≤ x) (h1 : x ≤ 9223372036854775807) : assessorref26_Variable.f x = some (x.natAbs : Int) := by
  unfold assessorref26_Variable.f
  split
  · rw [w64 (by omega) (by omega)]; congr 1; omega
  · congr 1; omega
theorem isClause_ev (n : Int) (hn0 : 0 ≤ n) (hn : n ≤ 4611686018427387904) (c : List Int) (hc : c.length ≤ 4611686018427387904) :
    ∀ (d : Nat) (x : Int) (last : Nat), 0 ≤ x → x ≤ c.length → (c.length : Int) - x = d → (x = 0 → last = 0) → (0 < x → (last : Int) = (rd c (x - 1)).natAbs ∧ (last : Int) ≤ n) → Ev (fun k => assessorref26_IsClause.l0 k c n x) (nOk n last (c.drop x.toNat)) := by
  intro d
  induction d with
  | zero =>
    intro x last h0 h1 hd _ _
    rw [List.drop_eq_nil_of_le (by omega)]
    exact Ev.step (f := fun _ => some true) (fun k => by simp only [assessorref26_IsClause.l0]; rw [if_neg (by omega)]) (Ev.now _)
  | succ d ih =>
    intro x last h0 h1 hd hl0 hl1
    have hlt : x < (c.length : Int) := by omega
    rw [drop_rd h0 hlt]
    simp only [nOk]
    have hw : wrap64 (-n) = -n := w64 (by omega) (by omega)
    have hw2 : wrap64 (x + 1) = x + 1 := w64 (by omega) (by omega)
    have hw3 : 0 < x → wrap64 (x - 1) = x - 1 := fun _ => w64 (by omega) (by omega)
    have bad : ∀ b : Bool, b = false → (∀ k, assessorref26_IsClause.l0 (k + 1) c n x = assessorref26_IsClause.j1 k c n x true) → Ev (fun k => assessorref26_IsClause.l0 k c n x) (b && nOk n (rd c x).natAbs (c.drop (x + 1).toNat)) := fun b hb h => by
      rw [hb, Bool.false_and]
      refine Ev.step (f := fun k => assessorref26_IsClause.j1 k c n x true) h ?_
      exact Ev.step (f := fun _ => some false) (fun k => by simp only [assessorref26_IsClause.j1]; rfl) (Ev.now _)
    by_cases h2 : rd c x = 0
    · exact bad _ (decide_eq_false (by omega)) (fun k => by simp only [assessorref26_IsClause.l0]; rw [if_pos hlt, if_pos h0, if_pos h2])
    by_cases h3 : rd c x < -n
    · exact bad _ (decide_eq_false (by omega)) (fun k => by simp only [assessorref26_IsClause.l0]; rw [if_pos hlt, if_pos h0, if_neg h2, if_pos (by rw [hw]; exact h3)])
    by_cases h4 : rd c x > n
    · exact bad _ (decide_eq_false (by omega)) (fun k => by simp only [assessorref26_IsClause.l0]; rw [if_pos hlt, if_pos h0, if_neg h2, if_neg (by rw [hw]; exact h3), if_pos h4])
    have go : ∀ b : Bool, (b = decide (((rd c x).natAbs : Int) ≤ last)) → (∀ k, assessorref26_IsClause.l0 (k + 1) c n x = assessorref26_IsClause.j1 k c n x b) → Ev (fun k => assessorref26_IsClause.l0 k c n x) (decide (-n ≤ rd c x ∧ rd c x ≤ n ∧ last < (rd c x).natAbs) && nOk n (rd c x).natAbs (c.drop (x + 1).toNat)) := fun b hb h => by
      by_cases h5 : ((rd c x).natAbs : Int) ≤ last
      · refine bad _ (decide_eq_false (by omega)) (fun k => by rw [h k, hb, decide_eq_true h5])
      · rw [decide_eq_true (show -n ≤ rd c x ∧ rd c x ≤ n ∧ last < (rd c x).natAbs by omega), Bool.true_and]
        refine Ev.step (f := fun k => assessorref26_IsClause.j1 k c n x false) (fun k => by rw [h k, hb, decide_eq_false h5]) ?_
        refine Ev.step (f := fun k => assessorref26_IsClause.l0 k c n (x + 1)) (fun k => by simp only [assessorref26_IsClause.j1]; rw [hw2]; rfl) (ih (x + 1) _ (by omega) (by omega) (by omega) (by omega) (fun _ => ⟨by rw [show x + 1 - 1 = x by omega], by omega⟩))
    by_cases h5 : x > 0
    · obtain ⟨e1, e2⟩ := hl1 h5
      refine go _ rfl (fun k => ?_)
      simp only [assessorref26_IsClause.l0]
      rw [if_pos hlt, if_pos h0, if_neg h2, if_neg (by rw [hw]; exact h3), if_neg h4, if_pos h5, rvar_f (by omega) (by omega)]
      simp only [Option.bind_some]
      rw [hw3 h5, if_pos (by omega), if_pos (by omega), rvar_f (by omega) (by omega)]
      simp only [Option.bind_some, e1]
    · have e : last = 0 := hl0 (by omega)
      refine go false (by rw [e]; exact (decide_eq_false (by omega)).symm) (fun k => ?_)
      simp only [assessorref26_IsClause.l0]
      rw [if_pos hlt, if_pos h0, if_neg h2, if_neg (by rw [hw]; exact h3), if_neg h4, if_neg h5]
theorem isClause_f (n : Int) (hn0 : 0 ≤ n) (hn : n ≤ 4611686018427387904) (c : List Int) (hc : c.length ≤ 4611686018427387904) : Ev (fun k => assessorref26_IsClause.f k c n) (clauseOk n c) :=
  isClause_ev n hn0 hn c hc c.length 0 0 (by omega) (by omega) (by omega) (fun _ => rfl) (fun h => absurd h (by omega))
theorem rvalid_ev (n : Int) (hn0 : 0 ≤ n) (hn : n ≤ 65536) (cl : List (List Int)) (hc : ∀ c ∈ cl, c.length ≤ 4611686018427387904) (hl : cl.length ≤ 4611686018427387904) :
    ∀ (d : Nat) (x : Int), 0 ≤ x → x ≤ cl.length → (cl.length : Int) - x = d → Ev (fun k => assessorref26_Valid.l0 k x n cl) ((cl.drop x.toNat).all (clauseOk n)) := by
  intro d
  induction d with
  | zero =>
    intro x h0 h1 hd
    rw [List.drop_eq_nil_of_le (by omega)]
    exact Ev.step (f := fun _ => some true) (fun k => by simp only [assessorref26_Valid.l0]; rw [if_neg (by omega)]) (Ev.now _)
  | succ d ih =>
    intro x h0 h1 hd
    have hlt : x < (cl.length : Int) := by omega
    have hw2 : wrap64 (x + 1) = x + 1 := w64 (by omega) (by omega)
    rw [drop_rdL h0 hlt, List.all_cons]
    have hm : rd_L1 cl x ∈ cl := by rw [rdL_get h0 hlt]; exact List.getElem_mem _
    have hf := isClause_f n hn0 (by omega) (rd_L1 cl x) (hc _ hm)
    refine Ev.step (f := fun k => (assessorref26_IsClause.f k (rd_L1 cl x) n).bind fun t => if t = true then assessorref26_Valid.l0 k (wrap64 (x + 1)) n cl else some false) (fun k => by simp only [assessorref26_Valid.l0]; rw [if_pos hlt, if_pos h0]) (Ev.bind hf ?_)
    cases hb : clauseOk n (rd_L1 cl x) with
    | false => simpa using Ev.now false
    | true =>
      rw [hw2]
      simpa using ih (x + 1) (by omega) (by omega) (by omega)
theorem rvalid_f (n : Int) (cl : List (List Int)) (hc : ∀ c ∈ cl, c.length ≤ 4611686018427387904) (hl : cl.length ≤ 4611686018427387904) : Ev (fun k => assessorref26_Valid.f k n cl) (validC n cl) := by
  unfold validC
  by_cases h1 : n < 0
  · rw [decide_eq_false (by omega), Bool.false_and]
    refine Ev.congr (f := fun k => assessorref26_Valid.j0 k true n cl) (fun k => by unfold assessorref26_Valid.f; rw [if_pos h1]) ?_
    exact Ev.step (f := fun _ => some false) (fun k => by simp only [assessorref26_Valid.j0]; rfl) (Ev.now _)
  · by_cases h2 : n > 65536
    · rw [decide_eq_false (by omega), Bool.false_and]
      refine Ev.congr (f := fun k => assessorref26_Valid.j0 k true n cl) (fun k => by unfold assessorref26_Valid.f; rw [if_neg h1, if_pos h2]) ?_
      exact Ev.step (f := fun _ => some false) (fun k => by simp only [assessorref26_Valid.j0]; rfl) (Ev.now _)
    · by_cases h3 : (cl.length : Int) > 262144
      · rw [decide_eq_false (by omega), Bool.false_and]
        refine Ev.congr (f := fun k => assessorref26_Valid.j0 k true n cl) (fun k => by unfold assessorref26_Valid.f; rw [if_neg h1, if_neg h2, decide_eq_true h3]) ?_
        exact Ev.step (f := fun _ => some false) (fun k => by simp only [assessorref26_Valid.j0]; rfl) (Ev.now _)
      · rw [decide_eq_true (by omega), Bool.true_and]
        refine Ev.congr (f := fun k => assessorref26_Valid.j0 k false n cl) (fun k => by unfold assessorref26_Valid.f; rw [if_neg h1, if_neg h2, decide_eq_false h3]) ?_
        refine Ev.step (f := fun k => assessorref26_Valid.l0 k 0 n cl) (fun k => by simp only [assessorref26_Valid.j0]; rfl) ?_
        exact rvalid_ev n (by omega) (by omega) cl hc hl cl.length 0 (by omega) (by omega) (by omega)
end Go.Proofs.YteaohgebocbehaaGreatDoor.Plain
end
section
/- Unit propagation as an inductive set, and that the plain steps of cnf.Propagate find just this set, or a clash in it. Conditions: the clauses and literals are of variables up to n. -/
set_option linter.unusedVariables false
set_option linter.unusedSimpArgs false
namespace Go.Proofs.YteaohgebocbehaaGreatDoor.Plain
open Go.RowKit Go.Proofs.YteaohgebocbehaaGreatDoorW.PrintWords
/-- What follows by unit propagation. -/
inductive UP (cl : List (List Int)) (st : List Int) : Int → Prop
  | start {l : Int} (h : l ∈ st) : UP cl st l
  | unit {c : List Int} {l : Int} (hc : c ∈ cl) (hl : l ∈ c) (h : ∀ x ∈ c, x ≠ l → UP cl st (-x)) : UP cl st l
def Clash (cl : List (List Int)) (st : List Int) : Prop := (∃ l, UP cl st l ∧ UP cl st (-l)) ∨ [] ∈ cl
/-- A list that holds what it starts from and is closed holds what follows. -/
theorem UP.closed {cl : List (List Int)} {st S : List Int} (h1 : ∀ l ∈ st, l ∈ S) (h2 : ∀ c ∈ cl, ∀ l ∈ c, (∀ x ∈ c, x ≠ l → -x ∈ S) → l ∈ S) {l : Int} (h : UP cl st l) : l ∈ S := by
  induction h with
  | start h => exact h1 _ h
  | unit hc hl _ ih => exact h2 _ hc _ hl ih
theorem UP.range {n : Int} {cl : List (List Int)} {st : List Int} (hcl : ∀ c ∈ cl, clauseOk n c = true) (hst : ∀ l ∈ st, startOk n l = true) {l : Int} (h : UP cl st l) : l ≠ 0 ∧ -n ≤ l ∧ l ≤ n := by
  cases h with
  | start h => simpa [startOk] using hst _ h
  | unit hc hl _ => exact ((clauseOk_iff n _).1 (hcl _ hc)).2 _ hl
theorem clash_of_excluded {cl : List (List Int)} {st c : List Int} (hc : c ∈ cl) (h : ∀ x ∈ c, UP cl st (-x)) : Clash cl st := by
  cases c with
  | nil => exact Or.inr hc
  | cons x t => exact Or.inl ⟨x, UP.unit hc List.mem_cons_self (fun y hy _ => h y hy), h x List.mem_cons_self⟩
/-- The literals of a clause that P does not exclude. -/
def free (P c : List Int) : List Int := c.filter fun x => !(P.contains (-x))
theorem mem_free {P c : List Int} {x : Int} : x ∈ free P c ↔ x ∈ c ∧ -x ∉ P := by simp [free]
theorem free_nil (c : List Int) : free [] c = c := by simp [free]
theorem free_same {P c : List Int} {p : Int} (h : -p ∉ c) : free (P ++ [p]) c = free P c := by
  unfold free
  apply List.filter_congr
  intro x hx
  have hp : -x ≠ p := fun e => h (by rw [← e]; simpa using hx)
  simp [hp]
theorem free_less {P c : List Int} {p : Int} (hnd : c.Nodup) (hp : p ∉ P) (h : -p ∈ c) : (free (P ++ [p]) c).length + 1 = (free P c).length := by
  have e : free (P ++ [p]) c = (free P c).filter fun x => !(x == -p) := by
    unfold free
    rw [List.filter_filter]
    apply List.filter_congr
    intro x hx
    have hq : -x = p ↔ x = -p := by omega
    by_cases e : x = -p
    · simp [e, hq]
    · have e3 : ¬ -x = p := fun h => e (hq.1 h)
      simp [e, e3]
  have hm : -p ∈ free P c := mem_free.2 ⟨h, by simpa using hp⟩
  have hn : (free P c).Nodup := hnd.filter _
  have e2 : ((free P c).filter fun x => !(x == -p)) = (free P c).erase (-p) := by
    rw [hn.erase_eq_filter]
    apply List.filter_congr
    intro x hx
    rfl
  rw [e, e2, List.length_erase_of_mem hm]
  have := List.length_pos_of_mem hm
  omega
theorem clause_nodup {n : Int} {c : List Int} (h : clauseOk n c = true) : c.Nodup := by
  have h1 := ((clauseOk_iff n c).1 h).1
  unfold Inc at h1
  exact h1.imp fun h e => by rw [e] at h; omega
theorem rd_set {v : List Int} {j : Nat} {u : Int} (x : Nat) (hj : j < v.length) : rd (v.set j u) (x : Int) = if j = x then u else rd v (x : Int) := by
  unfold rd
  simp only [Int.toNat_natCast, List.getD_eq_getElem?_getD, List.getElem?_set]
  split
  · rename_i e
    subst e
    simp [hj]
  · rfl
/-- What holds of the set after each step: clause i has been told of the literals pr i; those that tr holds of have been looked at. -/
structure UInv (n : Int) (cl : List (List Int)) (st : List Int) (pr : Nat → List Int) (tr : Nat → Prop) (s : PS) : Prop where
  val : (s.value.length : Int) = n + 1
  v1 : ∀ l : Int, l ≠ 0 → -n ≤ l → l ≤ n → (l ∈ s.list ↔ rd s.value (l.natAbs : Int) = l)
  v2 : ∀ l : Int, l ≠ 0 → -n ≤ l → l ≤ n → rd s.value (l.natAbs : Int) = 0 ∨ rd s.value (l.natAbs : Int) = l ∨ rd s.value (l.natAbs : Int) = -l
  lits : ∀ l ∈ s.list, l ≠ 0 ∧ -n ≤ l ∧ l ≤ n
  nd : s.list.Nodup
  up : ∀ l ∈ s.list, UP cl st l
  fl : s.fails = true → Clash cl st
  lft : ∀ (i : Nat) (c : List Int), cl[i]? = some c → rd s.left (i : Int) = ((free (pr i) c).length : Int)
  sub : ∀ (i : Nat), ∀ l ∈ pr i, l ∈ s.list
  lkd : ∀ (i : Nat) (c : List Int), cl[i]? = some c → tr i → (free (pr i) c = [] → s.fails = true) ∧ ∀ y, free (pr i) c = [y] → s.fails = true ∨ y ∈ s.list ∨ -y ∈ s.list
variable {n : Int} {cl : List (List Int)} {st : List Int} {pr : Nat → List Int} {tr : Nat → Prop} {s : PS}
theorem UInv.fail (h : UInv n cl st pr tr s) (hc : Clash cl st) : UInv n cl st pr tr { s with fails := true } :=
  ⟨h.val, h.v1, h.v2, h.lits, h.nd, h.up, fun _ => hc, h.lft, h.sub, fun i c hi ht => ⟨fun _ => rfl, fun _ _ => Or.inl rfl⟩⟩
theorem UInv.add (h : UInv n cl st pr tr s) {l : Int} (h0 : l ≠ 0) (h1 : -n ≤ l) (h2 : l ≤ n) (hu : UP cl st l) : UInv n cl st pr tr (s.add l) ∧ ((s.add l).fails = true ∨ l ∈ (s.add l).list) := by
  have hv := h.val
  have hj : l.natAbs < s.value.length := by omega
  unfold PS.add
  split
  · rename_i hz
    have hnl : ∀ x : Int, x.natAbs = l.natAbs → x ∉ s.list := fun x hx hm => by
      have hr := h.lits x hm
      have := (h.v1 x hr.1 hr.2.1 hr.2.2).1 hm
      rw [hx, hz] at this
      exact hr.1 this.symm
    refine ⟨⟨by simpa using h.val, fun x x0 x1 x2 => ?_, fun x x0 x1 x2 => ?_, fun x hx => ?_, ?_, fun x hx => ?_, h.fl, h.lft, fun i x hx => List.mem_append_left _ (h.sub i x hx), fun i c hi ht => ?_⟩, Or.inr (by simp)⟩
    · simp only [List.mem_append, List.mem_singleton]
      rw [rd_set _ hj]
      split
      · rename_i e
        constructor
        · rintro (hm | rfl)
          · exact absurd hm (hnl x e.symm)
          · rfl
        · intro e2; exact Or.inr e2.symm
      · rename_i e
        rw [← h.v1 x x0 x1 x2]
        constructor
        · rintro (hm | rfl)
          · exact hm
          · exact absurd rfl e
        · exact Or.inl
    · rw [rd_set _ hj]
      split
      · rename_i e
        omega
      · exact h.v2 x x0 x1 x2
    · rcases List.mem_append.1 hx with hx | hx
      · exact h.lits x hx
      · rw [List.mem_singleton.1 hx]; exact ⟨h0, h1, h2⟩
    · simp only
      rw [List.nodup_append]
      refine ⟨h.nd, by simp, fun x hx y hy e => ?_⟩
      rw [List.mem_singleton.1 hy] at e
      exact hnl l rfl (e ▸ hx)
    · rcases List.mem_append.1 hx with hx | hx
      · exact h.up x hx
      · rw [List.mem_singleton.1 hx]; exact hu
    · obtain ⟨a, b⟩ := h.lkd i c hi ht
      exact ⟨a, fun y hy => by
        rcases b y hy with b | b | b
        · exact Or.inl b
        · exact Or.inr (Or.inl (List.mem_append_left _ b))
        · exact Or.inr (Or.inr (List.mem_append_left _ b))⟩
  · rename_i hz
    split
    · rename_i hn
      have hm : -l ∈ s.list := (h.v1 (-l) (by omega) (by omega) (by omega)).2 (by rw [Int.natAbs_neg]; exact hn)
      exact ⟨h.fail (Or.inl ⟨l, hu, h.up _ hm⟩), Or.inl rfl⟩
    · rename_i hn
      refine ⟨h, Or.inr ((h.v1 l h0 h1 h2).2 ?_)⟩
      rcases h.v2 l h0 h1 h2 with e | e | e
      · exact absurd e hz
      · exact e
      · exact absurd e hn
/-- A further clause has been looked at. -/
theorem UInv.tried (h : UInv n cl st pr tr s) {i : Nat} (hi : ∀ c, cl[i]? = some c → (free (pr i) c = [] → s.fails = true) ∧ ∀ y, free (pr i) c = [y] → s.fails = true ∨ y ∈ s.list ∨ -y ∈ s.list) : UInv n cl st pr (fun k => tr k ∨ k = i) s :=
  ⟨h.val, h.v1, h.v2, h.lits, h.nd, h.up, h.fl, h.lft, h.sub, fun k c hk ht => by
    rcases ht with ht | rfl
    · exact h.lkd k c hk ht
    · exact hi c hk⟩
theorem UInv.tryC (hcl : ∀ c ∈ cl, clauseOk n c = true) (h : UInv n cl st pr tr s) {i : Nat} (hi : i < cl.length) : UInv n cl st pr (fun k => tr k ∨ k = i) (s.tryC cl (i : Int)) := by
  obtain ⟨c, hc⟩ : ∃ c, cl[i]? = some c := ⟨_, List.getElem?_eq_getElem hi⟩
  have hmem : c ∈ cl := List.mem_of_getElem? hc
  have hl := h.lft i c hc
  have hck := (clauseOk_iff n c).1 (hcl c hmem)
  have hup : ∀ x ∈ c, -x ∈ pr i → UP cl st (-x) := fun x _ hx => h.up _ (h.sub i _ hx)
  have hex : ∀ x ∈ c, x ∉ free (pr i) c → -x ∈ pr i := fun x hx hn => by
    apply Classical.byContradiction
    intro h3
    exact hn (mem_free.2 ⟨hx, h3⟩)
  unfold PS.tryC
  split
  · rename_i h2
    unfold PS.look
    split
    · rename_i hz
      rw [hz] at hl
      have he : free (pr i) c = [] := List.eq_nil_of_length_eq_zero (by omega)
      exact (h.fail (clash_of_excluded hmem fun x hx => hup x hx (hex x hx (by rw [he]; simp)))).tried fun _ _ => ⟨fun _ => rfl, fun _ _ => Or.inl rfl⟩
    · rename_i hz
      split
      · rename_i ho
        rw [ho] at hl
        obtain ⟨y, hy⟩ : ∃ y, free (pr i) c = [y] := List.length_eq_one_iff.1 (by omega)
        have hym : y ∈ c ∧ -y ∉ pr i := mem_free.1 (by rw [hy]; simp)
        have hunit : UP cl st y := UP.unit hmem hym.1 fun x hx hne => hup x hx (hex x hx (by rw [hy]; simpa using hne))
        have hg : cl.getD (i : Int).toNat [] = c := by rw [Int.toNat_natCast, List.getD_eq_getElem?_getD, hc]; rfl
        rw [hg]
        cases hf : c.find? fun l => decide (rd s.value (l.natAbs : Int) ≠ -l) with
        | some l =>
          have hlc := List.mem_of_find?_eq_some hf
          have hlv : rd s.value (l.natAbs : Int) ≠ -l := by simpa using List.find?_some hf
          have hr := hck.2 l hlc
          have hnl : -l ∉ s.list := fun hm => hlv (by have := (h.v1 (-l) (by omega) (by omega) (by omega)).1 hm; rwa [Int.natAbs_neg] at this)
          have hly : l = y := by
            have : l ∈ free (pr i) c := mem_free.2 ⟨hlc, fun hm => hnl (h.sub i _ hm)⟩
            rw [hy] at this
            simpa using this
          subst hly
          obtain ⟨a, b⟩ := h.add hr.1 hr.2.1 hr.2.2 hunit
          refine a.tried fun c' hc' => ?_
          obtain rfl := Option.some.inj (hc.symm.trans hc')
          refine ⟨fun e => (by rw [hy] at e; cases e), fun z hz => ?_⟩
          rw [hy] at hz
          obtain rfl : l = z := by simpa using hz
          rcases b with b | b
          · exact Or.inl b
          · exact Or.inr (Or.inl b)
        | none =>
          refine h.tried fun c' hc' => ?_
          obtain rfl := Option.some.inj (hc.symm.trans hc')
          refine ⟨fun e => (by rw [hy] at e; cases e), fun z hz => ?_⟩
          rw [hy] at hz
          obtain rfl : y = z := by simpa using hz
          have hr := hck.2 y hym.1
          have hv := List.find?_eq_none.1 hf y hym.1
          exact Or.inr (Or.inr ((h.v1 (-y) (by omega) (by omega) (by omega)).2 (by rw [Int.natAbs_neg]; simpa using hv)))
      · rename_i ho
        exfalso
        omega
  · rename_i h2
    refine h.tried fun c' hc' => ?_
    obtain rfl := Option.some.inj (hc.symm.trans hc')
    refine ⟨fun e => ?_, fun y e => ?_⟩
    · rw [e] at hl; simp at hl; omega
    · rw [e] at hl; simp at hl; omega
theorem UInv.tryFrom (hcl : ∀ c ∈ cl, clauseOk n c = true) : ∀ (d : Nat) (s : PS) (i : Nat), d + i = cl.length → UInv n cl st pr (fun k => k < i) s → UInv n cl st pr (fun k => k < cl.length) (PS.tryFrom cl d s (i : Int))
  | 0, s, i, hd, h => by
    rw [show i = cl.length by omega] at h
    exact h
  | d + 1, s, i, hd, h => by
    have h1 := h.tryC hcl (i := i) (by omega)
    have h2 : UInv n cl st pr (fun k => k < i + 1) (s.tryC cl (i : Int)) := ⟨h1.val, h1.v1, h1.v2, h1.lits, h1.nd, h1.up, h1.fl, h1.lft, h1.sub, fun k c hk ht => h1.lkd k c hk (by omega)⟩
    have h3 := UInv.tryFrom hcl d (s.tryC cl (i : Int)) (i + 1) (by omega) h2
    unfold PS.tryFrom
    exact h3
/-- A clause is told of a further literal. -/
theorem UInv.dec (hn : n ≤ 65536) (h0n : 0 ≤ n) (hcl : ∀ c ∈ cl, clauseOk n c = true) (h : UInv n cl st pr (fun k => k < cl.length) s) (hsl : s.left.length = cl.length) {i : Nat} {c : List Int} (hi : cl[i]? = some c) {p : Int} (hp : p ∈ s.list) (hpn : p ∉ pr i) (hc : -p ∈ c) :
    UInv n cl st (fun k => if k = i then pr i ++ [p] else pr k) (fun k => k < cl.length) (s.dec cl (i : Int)) := by
  have hlt : i < cl.length := (List.getElem?_eq_some_iff.1 hi).1
  have hmem : c ∈ cl := List.mem_of_getElem? hi
  have hl := h.lft i c hi
  have hlen := clauseOk_length h0n (hcl c hmem)
  have hle : (free (pr i) c).length ≤ c.length := List.length_filter_le _ _
  have hless := free_less (clause_nodup (hcl c hmem)) hpn hc
  have hw : wrap64 (rd s.left (i : Int) - 1) = ((free (pr i ++ [p]) c).length : Int) := by unfold wrap64; omega
  have h1 : UInv n cl st (fun k => if k = i then pr i ++ [p] else pr k) (fun k => k < cl.length ∧ k ≠ i) { s with left := s.left.set i (wrap64 (rd s.left (i : Int) - 1)) } :=
    ⟨h.val, h.v1, h.v2, h.lits, h.nd, h.up, h.fl, fun k d hk => by
      simp only
      rw [rd_set _ (by omega)]
      by_cases e : k = i
      · subst e
        obtain rfl := Option.some.inj (hi.symm.trans hk)
        rw [if_pos rfl, if_pos rfl]
        exact hw
      · rw [if_neg (Ne.symm e), if_neg e]
        exact h.lft k d hk, fun k l hk => by
      by_cases e : k = i
      · rw [if_pos e] at hk
        rcases List.mem_append.1 hk with hk | hk
        · exact h.sub i l hk
        · rw [List.mem_singleton.1 hk]; exact hp
      · rw [if_neg e] at hk
        exact h.sub k l hk, fun k d hk ht => by
      simp only [if_neg ht.2]
      exact h.lkd k d hk ht.1⟩
  have h2 := h1.tryC hcl hlt
  unfold PS.dec
  rw [Int.toNat_natCast]
  exact ⟨h2.val, h2.v1, h2.v2, h2.lits, h2.nd, h2.up, h2.fl, h2.lft, h2.sub, fun k d hk ht => h2.lkd k d hk (by show (k < cl.length ∧ k ≠ i) ∨ k = i; omega)⟩
theorem add_mem (s : PS) (l : Int) : ∀ x ∈ s.list, x ∈ (s.add l).list := by
  intro x hx
  unfold PS.add
  split
  · exact List.mem_append_left _ hx
  · split
    · exact hx
    · exact hx
theorem add_pre (s : PS) (l : Int) : s.list <+: (s.add l).list := by
  unfold PS.add
  split
  · exact List.prefix_append _ _
  · split
    · exact List.prefix_refl _
    · exact List.prefix_refl _
theorem add_left (s : PS) (l : Int) : (s.add l).left = s.left := by unfold PS.add; split; rfl; split <;> rfl
theorem look_keeps (cl : List (List Int)) (s : PS) (c : Int) : s.list <+: (s.look cl c).list ∧ (s.look cl c).left = s.left := by
  unfold PS.look
  split
  · exact ⟨List.prefix_refl _, rfl⟩
  · split
    · split
      · exact ⟨add_pre _ _, add_left _ _⟩
      · exact ⟨List.prefix_refl _, rfl⟩
    · exact ⟨List.prefix_refl _, rfl⟩
theorem tryC_keeps (cl : List (List Int)) (s : PS) (c : Int) : s.list <+: (s.tryC cl c).list ∧ (s.tryC cl c).left = s.left := by
  unfold PS.tryC
  split
  · exact look_keeps _ _ _
  · exact ⟨List.prefix_refl _, rfl⟩
theorem dec_keeps (cl : List (List Int)) (s : PS) (c : Int) : s.list <+: (s.dec cl c).list ∧ (s.dec cl c).left.length = s.left.length := by
  have h := tryC_keeps cl { s with left := s.left.set c.toNat (wrap64 (rd s.left c - 1)) } c
  unfold PS.dec
  exact ⟨h.1, by rw [h.2]; simp⟩
/-- All clauses with the opposite of a literal are told of it. -/
theorem UInv.decs (hn : n ≤ 65536) (h0n : 0 ≤ n) (hcl : ∀ c ∈ cl, clauseOk n c = true) (P : List Int) (p : Int) (hpP : p ∉ P) : ∀ (l : List Int) (pr : Nat → List Int) (s : PS), l.Nodup → (∀ x ∈ l, ∃ (i : Nat) (c : List Int), x = (i : Int) ∧ cl[i]? = some c ∧ -p ∈ c ∧ pr i = P) → (∀ k, pr k = P ∨ pr k = P ++ [p]) → UInv n cl st pr (fun k => k < cl.length) s → s.left.length = cl.length → p ∈ s.list →
    ∃ pr' : Nat → List Int, (∀ k : Nat, pr' k = if (k : Int) ∈ l then P ++ [p] else pr k) ∧ UInv n cl st pr' (fun k => k < cl.length) (l.foldl (PS.dec cl) s) ∧ (l.foldl (PS.dec cl) s).left.length = cl.length ∧ s.list <+: (l.foldl (PS.dec cl) s).list
  | [], pr, s, _, _, _, h, hl, hp => ⟨pr, fun k => by simp, h, hl, List.prefix_refl _⟩
  | x :: t, pr, s, hnd, hx, hpr, h, hl, hp => by
    obtain ⟨i, c, rfl, hi, hc, hpi⟩ := hx x List.mem_cons_self
    obtain ⟨hnx, hnt⟩ := List.nodup_cons.1 hnd
    have h1 := h.dec hn h0n hcl hl hi hp (by rw [hpi]; exact hpP) hc
    have hk := dec_keeps cl s (i : Int)
    obtain ⟨pr', e', h2, h3, h4⟩ := UInv.decs hn h0n hcl P p hpP t _ (s.dec cl (i : Int)) hnt (fun y hy => by
      obtain ⟨j, d, rfl, hj, hd, hpj⟩ := hx y (List.mem_cons_of_mem _ hy)
      refine ⟨j, d, rfl, hj, hd, ?_⟩
      rw [if_neg (fun e => hnx (by rw [← e]; exact hy))]
      exact hpj) (fun k => by
      by_cases e : k = i
      · exact Or.inr (by rw [if_pos e, hpi])
      · rw [if_neg e]; exact hpr k) h1 (by rw [hk.2]; exact hl) (hk.1.subset hp)
    refine ⟨pr', fun k => ?_, h2, h3, hk.1.trans h4⟩
    rw [e']
    by_cases e1 : (k : Int) ∈ t
    · simp [e1]
    · by_cases e2 : k = i
      · subst e2
        simp [e1, hpi]
      · have : (k : Int) ≠ (i : Int) := by omega
        simp [e1, e2, this]
/-- The clauses of a literal, by their numbers. -/
def occ (l : Int) : Nat → List (List Int) → List Int
  | _, [] => []
  | i, c :: t => (if l ∈ c then [(i : Int)] else []) ++ occ l (i + 1) t
theorem occ_mem (l : Int) : ∀ (cl : List (List Int)) (i : Nat) (x : Int), x ∈ occ l i cl ↔ ∃ (k : Nat) (c : List Int), x = ((i + k : Nat) : Int) ∧ cl[k]? = some c ∧ l ∈ c
  | [], i, x => by simp [occ]
  | d :: t, i, x => by
    simp only [occ, List.mem_append, occ_mem l t (i + 1) x]
    constructor
    · rintro (h | ⟨k, c, e, hk, hl⟩)
      · split at h
        · rename_i hd
          exact ⟨0, d, by simpa using h, rfl, hd⟩
        · cases h
      · exact ⟨k + 1, c, by rw [e]; omega, by simpa using hk, hl⟩
    · rintro ⟨k, c, e, hk, hl⟩
      cases k with
      | zero =>
        left
        simp only [List.getElem?_cons_zero, Option.some.injEq] at hk
        subst hk
        rw [if_pos hl]
        simpa using e
      | succ k => exact Or.inr ⟨k, c, by rw [e]; omega, by simpa using hk, hl⟩
theorem occ_nodup (l : Int) : ∀ (cl : List (List Int)) (i : Nat), (occ l i cl).Nodup
  | [], i => by simp [occ]
  | d :: t, i => by
    simp only [occ]
    rw [List.nodup_append]
    refine ⟨by split <;> simp, occ_nodup l t (i + 1), fun x hx y hy e => ?_⟩
    subst e
    obtain ⟨k, c, e, _, _⟩ := (occ_mem l t (i + 1) x).1 hy
    split at hx
    · have := List.mem_singleton.1 hx
      omega
    · cases hx
theorem idx_inj {x y : Int} (h : idx x = idx y) : x = y := by
  unfold idx at h
  split at h <;> split at h <;> omega
theorem idx_lt {n x : Int} (h1 : -n ≤ x) (h2 : x ≤ n) : (idx x : Int) < 2 * n + 2 := by
  unfold idx
  split <;> omega
theorem clause_places (i : Int) : ∀ (c : List Int) (s : PS), c.Nodup → (∀ x ∈ c, idx x < s.places.length) → ∀ l : Int, (c.foldl (PS.place i) s).places.getD (idx l) [] = s.places.getD (idx l) [] ++ (if l ∈ c then [i] else [])
  | [], s, _, _, l => by simp
  | x :: d, s, hnd, hx, l => by
    obtain ⟨h1, h2⟩ := List.nodup_cons.1 hnd
    have ih := clause_places i d (s.place i x) h2 (fun y hy => by simpa [PS.place] using hx y (List.mem_cons_of_mem _ hy)) l
    simp only [List.foldl_cons]
    rw [ih]
    have hl := hx x List.mem_cons_self
    have e : (s.place i x).places.getD (idx l) [] = s.places.getD (idx l) [] ++ (if l = x then [i] else []) := by
      simp only [PS.place, List.getD_eq_getElem?_getD, List.getElem?_set]
      by_cases hlx : l = x
      · subst hlx
        simp [hl]
      · have : idx x ≠ idx l := fun e => hlx (idx_inj e).symm
        simp [this, hlx]
    rw [e]
    by_cases hlx : l = x
    · subst hlx
      simp [h1]
    · simp [hlx]
theorem place_len (i : Int) : ∀ (c : List Int) (s : PS), (c.foldl (PS.place i) s).places.length = s.places.length ∧ (c.foldl (PS.place i) s).left = s.left
  | [], s => ⟨rfl, rfl⟩
  | x :: d, s => by
    have := place_len i d (s.place i x)
    simp only [List.foldl_cons]
    exact ⟨this.1.trans (by simp [PS.place]), this.2.trans rfl⟩
theorem fill_all {n : Int} : ∀ (cl : List (List Int)) (s : PS) (i : Nat), (∀ c ∈ cl, clauseOk n c = true) → (s.places.length : Int) = 2 * n + 2 →
    (∀ l : Int, (fillFrom s (i : Int) cl).places.getD (idx l) [] = s.places.getD (idx l) [] ++ occ l i cl) ∧ (fillFrom s (i : Int) cl).left = s.left ++ cl.map fun c => (c.length : Int)
  | [], s, i, _, _ => by simp [fillFrom, occ]
  | c :: t, s, i, hcl, hp => by
    have hc := hcl c List.mem_cons_self
    have hr := ((clauseOk_iff n c).1 hc).2
    have hpl := place_len (i : Int) c { s with left := s.left ++ [(c.length : Int)] }
    have hcp := clause_places (i : Int) c { s with left := s.left ++ [(c.length : Int)] } (clause_nodup hc) (fun x hx => by
      have h1 := hr x hx
      have := idx_lt h1.2.1 h1.2.2
      simp only
      omega)
    have ih := fill_all (n := n) t (s.clause (i : Int) c) (i + 1) (fun d hd => hcl d (List.mem_cons_of_mem _ hd)) (by unfold PS.clause; rw [hpl.1]; exact hp)
    simp only [fillFrom]
    refine ⟨fun l => ?_, ?_⟩
    · have := ih.1 l
      rw [show ((i : Int) + 1) = ((i + 1 : Nat) : Int) by omega, this]
      unfold PS.clause
      rw [hcp l]
      simp only [occ, List.append_assoc]
    · rw [show ((i : Int) + 1) = ((i + 1 : Nat) : Int) by omega, ih.2]
      unfold PS.clause
      rw [hpl.2]
      simp
theorem add_fails (s : PS) (l : Int) (h : s.fails = true) : (s.add l).fails = true := by
  unfold PS.add
  split
  · exact h
  · split
    · rfl
    · exact h
theorem UInv.adds : ∀ (l : List Int) (s : PS), (∀ x ∈ l, startOk n x = true ∧ x ∈ st) → UInv n cl st pr tr s → UInv n cl st pr tr (l.foldl PS.add s) ∧ (s.fails = true → (l.foldl PS.add s).fails = true) ∧ s.list <+: (l.foldl PS.add s).list ∧ ((l.foldl PS.add s).fails = true ∨ ∀ x ∈ l, x ∈ (l.foldl PS.add s).list)
  | [], s, _, h => ⟨h, fun h => h, List.prefix_refl _, Or.inr (by simp)⟩
  | x :: t, s, hx, h => by
    have hx0 := hx x List.mem_cons_self
    have hr : x ≠ 0 ∧ -n ≤ x ∧ x ≤ n := by simpa [startOk] using hx0.1
    obtain ⟨a, b⟩ := h.add hr.1 hr.2.1 hr.2.2 (UP.start hx0.2)
    obtain ⟨c1, c2, c3, c4⟩ := UInv.adds t (s.add x) (fun y hy => hx y (List.mem_cons_of_mem _ hy)) a
    refine ⟨c1, fun hf => c2 (add_fails _ _ hf), (add_pre s x).trans c3, ?_⟩
    rcases c4 with c4 | c4
    · exact Or.inl c4
    · rcases b with b | b
      · exact Or.inl (c2 b)
      · refine Or.inr fun y hy => ?_
        rcases List.mem_cons.1 hy with rfl | hy
        · exact c3.subset b
        · exact c4 y hy
theorem SInv.decs {m : Nat} (hcl : ∀ c ∈ cl, clauseOk n c = true) : ∀ (l : List Int) (s : PS), SInv n m s → SInv n m (l.foldl (PS.dec cl) s)
  | [], s, h => h
  | x :: t, s, h => SInv.decs hcl t _ (h.dec hcl x)
theorem decs_places : ∀ (l : List Int) (s : PS), (l.foldl (PS.dec cl) s).places = s.places
  | [], s => rfl
  | x :: t, s => (decs_places t _).trans (dec_places cl s x)
theorem UInv.run (hn : n ≤ 65536) (h0n : 0 ≤ n) (hcl : ∀ c ∈ cl, clauseOk n c = true) : ∀ (f : Nat) (s : PS) (k : Nat), n + 1 ≤ (f : Int) + k → k ≤ s.list.length → (∀ l : Int, s.places.getD (idx l) [] = occ l 0 cl) → SInv n cl.length s → UInv n cl st (fun _ => s.list.take k) (fun i => i < cl.length) s →
    ∃ P, UInv n cl st (fun _ => P) (fun i => i < cl.length) (PS.run cl f s (k : Int)) ∧ ((PS.run cl f s (k : Int)).fails = true ∨ P = (PS.run cl f s (k : Int)).list) ∧ s.list <+: (PS.run cl f s (k : Int)).list
  | 0, s, k, hf, hk, hp, hs, h => by
    have := hs.list_le
    exact ⟨_, h, Or.inr (List.take_of_length_le (by omega)), List.prefix_refl _⟩
  | f + 1, s, k, hf, hk, hp, hs, h => by
    by_cases hgo : (k : Int) < (s.list.length : Int) ∧ s.fails = false
    · rw [run_go cl f s k hgo]
      have hkl : k < s.list.length := by omega
      obtain ⟨p, hpe⟩ : ∃ p, p = s.list[k] := ⟨_, rfl⟩
      have hrd : rd s.list (k : Int) = p := by rw [rd_get (by omega) (by omega)]; simpa using hpe.symm
      have hpm : p ∈ s.list := by rw [hpe]; exact List.getElem_mem hkl
      have htk : s.list.take (k + 1) = s.list.take k ++ [p] := by rw [List.take_add_one, List.getElem?_eq_getElem hkl, hpe]; rfl
      have hpP : p ∉ s.list.take k := fun hm => by
        have hnd : (s.list.take (k + 1)).Nodup := h.nd.sublist (List.take_sublist _ _)
        rw [htk, List.nodup_append] at hnd
        exact hnd.2.2 p hm p (by simp) rfl
      rw [hrd, hp (-p)]
      obtain ⟨pr', e', h1, h2, h3⟩ := UInv.decs hn h0n hcl (s.list.take k) p hpP (occ (-p) 0 cl) (fun _ => s.list.take k) s (occ_nodup _ _ _) (fun x hx => by
        obtain ⟨j, c, e, hj, hc⟩ := (occ_mem (-p) cl 0 x).1 hx
        exact ⟨j, c, by simpa using e, hj, hc, rfl⟩) (fun _ => Or.inl rfl) h hs.left hpm
      obtain ⟨r, hr⟩ : ∃ r, r = (occ (-p) 0 cl).foldl (PS.dec cl) s := ⟨_, rfl⟩
      rw [← hr] at h1 h2 h3 ⊢
      have htk2 : r.list.take (k + 1) = s.list.take k ++ [p] := by
        obtain ⟨q, hq⟩ := h3
        rw [← hq, List.take_append_of_le_length (by omega), htk]
      have hfree : ∀ (i : Nat) (c : List Int), cl[i]? = some c → free (s.list.take k ++ [p]) c = free (pr' i) c := fun i c hi => by
        rw [e' i]
        split
        · rfl
        · rename_i hno
          exact free_same fun hm => hno ((occ_mem (-p) cl 0 i).2 ⟨i, c, by simp, hi, hm⟩)
      have h4 : UInv n cl st (fun _ => r.list.take (k + 1)) (fun i => i < cl.length) r := by
        rw [htk2]
        exact ⟨h1.val, h1.v1, h1.v2, h1.lits, h1.nd, h1.up, h1.fl, fun i c hi => by rw [hfree i c hi]; exact h1.lft i c hi, fun i l hl => by
          rw [← htk2] at hl
          exact List.mem_of_mem_take hl, fun i c hi ht => by rw [hfree i c hi]; exact h1.lkd i c hi ht⟩
      have hlen := h3.length_le
      have := UInv.run hn h0n hcl f r (k + 1) (by omega) (by omega) (fun l => by rw [hr, decs_places]; exact hp l) (by rw [hr]; exact SInv.decs hcl _ _ hs) h4
      obtain ⟨P, a, b, c⟩ := this
      exact ⟨P, a, b, h3.trans c⟩
    · rw [run_stop cl (f + 1) s k hgo]
      refine ⟨_, h, ?_, List.prefix_refl _⟩
      by_cases hf2 : s.fails = true
      · exact Or.inl hf2
      · refine Or.inr (List.take_of_length_le ?_)
        have : ¬ (k : Int) < (s.list.length : Int) := fun hlt => hgo ⟨hlt, by simpa using hf2⟩
        omega
/-- WHAT PROPAGATION FINDS: the set, or a clash in it. -/
theorem propS_spec (hn : n ≤ 65536) (h0n : 0 ≤ n) (hcl : ∀ c ∈ cl, clauseOk n c = true) (hst : ∀ l ∈ st, startOk n l = true) :
    ((propS n cl st).fails = true → Clash cl st) ∧ ((propS n cl st).fails = false → ¬ Clash cl st ∧ (∀ l, l ∈ (propS n cl st).list ↔ UP cl st l) ∧ (propS n cl st).list.Nodup) := by
  obtain ⟨f1, f2, f3, f4, f5, f6⟩ := fill_inv h0n cl.length cl (PS.init n) 0 hcl (by omega) (by omega) rfl (by simp [PS.init]; omega) (fun p hp c hc => by
    have := List.eq_of_mem_replicate hp
    subst this
    cases hc)
  obtain ⟨g1, g2⟩ := fill_all (n := n) cl (PS.init n) 0 hcl (by simp [PS.init]; omega)
  have hS0 := fill_SInv h0n hcl
  rw [show ((0 : Nat) : Int) = 0 from rfl] at g1 g2
  obtain ⟨s0, hs0⟩ : ∃ s, s = fillFrom (PS.init n) 0 cl := ⟨_, rfl⟩
  rw [← hs0] at f1 f2 f3 f4 f5 f6 g1 g2 hS0
  have hz : ∀ x : Int, rd s0.value x = 0 := fun x => by
    rw [f4]
    unfold rd
    simp only [PS.init, List.getD_eq_getElem?_getD, List.getElem?_replicate]
    split <;> rfl
  have hP0 : ∀ l : Int, s0.places.getD (idx l) [] = occ l 0 cl := fun l => by
    rw [g1 l]
    simp only [PS.init, List.getD_eq_getElem?_getD, List.getElem?_replicate]
    split <;> simp
  have hnil : s0.list = [] := f5
  have u0 : UInv n cl st (fun _ => []) (fun _ => False) s0 :=
    ⟨hS0.val, fun l h0 _ _ => (by rw [hnil, hz]; simp; omega), fun l _ _ _ => Or.inl (hz _), fun l hl => absurd hl (by rw [hnil]; simp), (by rw [hnil]; simp), fun l hl => absurd hl (by rw [hnil]; simp), fun h => absurd h (by rw [f6]; simp [PS.init]),
      fun i c hi => (by
        rw [g2, free_nil]
        have hlt := (List.getElem?_eq_some_iff.1 hi).1
        rw [rd_get (by omega) (by simp [PS.init]; omega)]
        obtain ⟨h1, h2⟩ := List.getElem?_eq_some_iff.1 hi
        simp [PS.init, h2]), fun i l hl => (by cases hl), fun i c hi ht => ht.elim⟩
  obtain ⟨u1, _, pre1, m1⟩ := u0.adds st s0 (fun x hx => ⟨hst x hx, hx⟩)
  obtain ⟨s1, hs1⟩ : ∃ s, s = st.foldl PS.add s0 := ⟨_, rfl⟩
  have hS1 : ∀ (l : List Int) (s : PS), (∀ x ∈ l, startOk n x = true) → SInv n cl.length s → SInv n cl.length (l.foldl PS.add s) ∧ (l.foldl PS.add s).places = s.places := by
    intro l
    induction l with
    | nil => intro s _ h; exact ⟨h, rfl⟩
    | cons x t ih =>
      intro s hx h
      have hr : x ≠ 0 ∧ -n ≤ x ∧ x ≤ n := by simpa [startOk] using hx x List.mem_cons_self
      have := ih (s.add x) (fun y hy => hx y (List.mem_cons_of_mem _ hy)) (h.add (by omega) (by omega))
      exact ⟨this.1, this.2.trans (add_places _ _)⟩
  obtain ⟨hS1, hp1⟩ := hS1 st s0 hst hS0
  rw [← hs1] at u1 pre1 m1 hS1 hp1
  have hS2 : ∀ (d : Nat) (s : PS) (i : Int), SInv n cl.length s → SInv n cl.length (PS.tryFrom cl d s i) ∧ (PS.tryFrom cl d s i).places = s.places ∧ s.list <+: (PS.tryFrom cl d s i).list := by
    intro d
    induction d with
    | zero => intro s i h; exact ⟨h, rfl, List.prefix_refl _⟩
    | succ d ih =>
      intro s i h
      have := ih (s.tryC cl i) (i + 1) (h.tryC hcl i)
      unfold PS.tryFrom
      exact ⟨this.1, this.2.1.trans (tryC_places _ _ _), (tryC_keeps cl s i).1.trans this.2.2⟩
  obtain ⟨hS2, hp2, pre2⟩ := hS2 cl.length s1 0 hS1
  have u2 := UInv.tryFrom hcl cl.length s1 0 (by omega) (⟨u1.val, u1.v1, u1.v2, u1.lits, u1.nd, u1.up, u1.fl, u1.lft, u1.sub, fun k c _ h => absurd h (Nat.not_lt_zero _)⟩ : UInv n cl st (fun _ => []) (fun k => k < 0) s1)
  rw [show ((0 : Nat) : Int) = 0 from rfl] at u2
  have hprop : propS n cl st = PS.run cl (n + 1).toNat (PS.tryFrom cl cl.length s1 0) 0 := by unfold propS; rw [← hs0, ← hs1]
  obtain ⟨s2, hs2⟩ : ∃ s, s = PS.tryFrom cl cl.length s1 0 := ⟨_, rfl⟩
  rw [← hs2] at u2 hS2 hp2 pre2 hprop
  obtain ⟨P, u3, hor, pre3⟩ := UInv.run hn h0n hcl (n + 1).toNat s2 0 (by omega) (by omega) (fun l => by rw [hp2, hp1]; exact hP0 l) hS2 (by simpa using u2)
  rw [show ((0 : Nat) : Int) = 0 from rfl, ← hprop] at u3 hor pre3
  refine ⟨u3.fl, fun hf => ?_⟩
  have hPl : P = (propS n cl st).list := by
    rcases hor with h | h
    · rw [hf] at h; cases h
    · exact h
  subst hPl
  have hstart : ∀ l ∈ st, l ∈ (propS n cl st).list := fun l hl => pre3.subset (pre2.subset (by
    rcases m1 with h | h
    · exfalso
      have mono : ∀ (s : PS) (i : Int), s.fails = true → (s.tryC cl i).fails = true := fun s i h => by
        unfold PS.tryC PS.look
        split
        · split
          · rfl
          · split
            · split
              · exact add_fails _ _ h
              · exact h
            · exact h
        · exact h
      have mono2 : ∀ (d : Nat) (s : PS) (i : Int), s.fails = true → (PS.tryFrom cl d s i).fails = true := by
        intro d
        induction d with
        | zero => intro s i h; exact h
        | succ d ih => intro s i h; exact ih _ _ (mono _ _ h)
      have h2 : s2.fails = true := by rw [hs2]; exact mono2 _ _ _ h
      have h3 : propS n cl st = s2 := by rw [hprop, run_stop cl _ s2 0 (fun hx => by rw [h2] at hx; cases hx.2)]
      rw [h3, h2] at hf
      cases hf
    · exact h l hl))
  have hclosed : ∀ c ∈ cl, ∀ l ∈ c, (∀ x ∈ c, x ≠ l → -x ∈ (propS n cl st).list) → l ∈ (propS n cl st).list := fun c hc l hl hx => by
    obtain ⟨i, hi, rfl⟩ := List.getElem_of_mem hc
    have hlk := u3.lkd i _ (List.getElem?_eq_getElem hi) hi
    have hsub : ∀ x ∈ free (propS n cl st).list cl[i], x = l := fun x hx1 => by
      obtain ⟨h1, h2⟩ := mem_free.1 hx1
      apply Classical.byContradiction
      intro hne
      exact h2 (hx x h1 hne)
    have hnd : (free (propS n cl st).list cl[i]).Nodup := (clause_nodup (hcl _ hc)).filter _
    match hfr : free (propS n cl st).list cl[i], hnd with
    | [], _ => rw [hlk.1 hfr] at hf; cases hf
    | [y], _ =>
      have hy : y ∈ free (propS n cl st).list cl[i] := by rw [hfr]; simp
      have := hsub y hy
      subst this
      rcases hlk.2 y hfr with h | h | h
      · rw [hf] at h; cases h
      · exact h
      · exact absurd h (mem_free.1 hy).2
    | y :: z :: t, hnd =>
      have hy := hsub y (by rw [hfr]; simp)
      have hz := hsub z (by rw [hfr]; simp)
      subst hy
      rw [hz] at hnd
      simp at hnd
  have hiff : ∀ l, l ∈ (propS n cl st).list ↔ UP cl st l := fun l => ⟨u3.up l, fun h => h.closed hstart hclosed⟩
  refine ⟨?_, hiff, u3.nd⟩
  rintro (⟨l, h1, h2⟩ | h)
  · have a := (hiff l).2 h1
    have b := (hiff (-l)).2 h2
    have r := u3.lits l a
    have e1 := (u3.v1 l r.1 r.2.1 r.2.2).1 a
    have e2 := (u3.v1 (-l) (by omega) (by omega) (by omega)).1 b
    rw [Int.natAbs_neg] at e2
    omega
  · obtain ⟨i, hi, e⟩ := List.getElem_of_mem h
    have := (u3.lkd i _ (List.getElem?_eq_getElem hi) hi).1 (by rw [e]; rfl)
    rw [hf] at this
    cases this
end Go.Proofs.YteaohgebocbehaaGreatDoor.Plain
end
section
/- What Propagate answers, told once. No program. -/
set_option linter.unusedVariables false
namespace Go.Proofs.YteaohgebocbehaaGreatDoor.Plain
open Go.RowKit Go.Proofs.YteaohgebocbehaaGreatDoorW.PrintWords
variable {n : Int} {cl : List (List Int)} {st : List Int}
/-- What Propagate answers: one answer alone. -/
def PropRes (n : Int) (cl : List (List Int)) (st : List Int) (r : List Int × Bool × Int) : Prop :=
  if validC n cl = true ∧ st.all (startOk n) = true then r.2.2 = 0 ∧ (Clash cl st → r.1 = [] ∧ r.2.1 = false) ∧ (¬ Clash cl st → r.2.1 = true ∧ Inc r.1 ∧ ∀ l, l ∈ r.1 ↔ UP cl st l)
  else r = ([], false, 1)
theorem PropRes.unique {r s : List Int × Bool × Int} (h : PropRes n cl st r) (g : PropRes n cl st s) : r = s := by
  unfold PropRes at h g
  by_cases hc : validC n cl = true ∧ st.all (startOk n) = true
  · rw [if_pos hc] at h g
    obtain ⟨r1, r2, r3⟩ := r
    obtain ⟨s1, s2, s3⟩ := s
    obtain ⟨h1, h2, h3⟩ := h
    obtain ⟨g1, g2, g3⟩ := g
    simp only at h1 h2 h3 g1 g2 g3
    by_cases hx : Clash cl st
    · rw [(h2 hx).1, (h2 hx).2, (g2 hx).1, (g2 hx).2, h1, g1]
    · obtain ⟨a1, a2, a3⟩ := h3 hx
      obtain ⟨b1, b2, b3⟩ := g3 hx
      rw [a1, b1, h1, g1, inc_ext r1 s1 a2 b2 (fun x => (a3 x).trans (b3 x).symm)]
  · rw [if_neg hc] at h g
    rw [h, g]
end Go.Proofs.YteaohgebocbehaaGreatDoor.Plain
end
section
/- cnf.Propagate at any arguments, by the one answer that it may give. Conditions as written in each. -/
set_option linter.unusedVariables false
set_option linter.unusedSimpArgs false
namespace Go.Proofs.YteaohgebocbehaaGreatDoor.Hand
open Go.RowKit Go.Lib Go.Shelf Go.Proofs.YteaohgebocbehaaGreatDoorW Go.Proofs.YteaohgebocbehaaGreatDoorW.PrintWords Go.Proofs.YteaohgebocbehaaGreatDoorW.PrintLast Go.Proofs.YteaohgebocbehaaGreatDoorW.PrintMore Go.Proofs.YteaohgebocbehaaGreatDoor.Plain Go.Proofs.YteaohgebocbehaaGreatDoor.XA
attribute [local go_sem] max2_int min2_int max_two min_two max_three min_three max_four min_four
theorem propOk_res {n : Int} {cl : List (List Int)} {st r : List Int} {b : Bool} (hv : validC n cl = true) (hst : st.all (startOk n) = true) (h : PropOk n cl st r b) : PropRes n cl st (r, b, 0) := by
  obtain ⟨⟨h0n, hn, _⟩, hcl⟩ := (validC_iff n cl).1 hv
  have hst' := List.all_eq_true.1 hst
  obtain ⟨s1, s2⟩ := propS_spec (st := st) hn h0n hcl hst'
  unfold PropRes
  rw [if_pos ⟨hv, hst⟩]
  unfold PropOk at h
  by_cases hf : (propS n cl st).fails = true
  · rw [if_pos hf] at h
    exact ⟨rfl, fun _ => h, fun hc => absurd (s1 hf) hc⟩
  · rw [if_neg hf] at h
    obtain ⟨h1, h2, h3⟩ := h
    obtain ⟨t1, t2, t3⟩ := s2 (by simpa using hf)
    have hnd : r.Nodup := h2.nodup_iff.2 t3
    refine ⟨rfl, fun hc => absurd hc t1, fun _ => ⟨h1, ?_, fun l => (h2.mem_iff).trans (t2 l)⟩⟩
    unfold Inc
    have hp : r.Pairwise fun x y => ¬ y.natAbs < x.natAbs ∧ x ≠ y := h3.and hnd
    refine hp.imp_of_mem fun {a b} ha hb hab => ?_
    obtain ⟨e1, e2⟩ := hab
    have ua := (t2 a).1 (h2.mem_iff.1 ha)
    have ub := (t2 b).1 (h2.mem_iff.1 hb)
    by_cases e : b = -a
    · exact absurd (Or.inl ⟨a, ua, by rw [← e]; exact ub⟩) t1
    · omega
/-- cnf.Propagate, at any arguments. -/
theorem prop_calls (n : Int) (A : Option Addr) (c : Nat) (cl : List (List Int)) (As : Option Addr) (cs : Nat) (start : List Int) (w : World) (hr : kL.C w A cl.length cl) (hc : cl.length ≤ c) (hf : Fine cl) (hs : kI.C w As start.length start) (hsl : start.length ≤ 17592186044416) :
    Calls Tryz.prog 24 #[.agg #[.int .i64 n, .slice A cl.length c], .slice As start.length cs] w fun e w' => ∃ A' c' r, e = .returned (.tuple #[.slice A' r.1.length c', .bool r.2.1, .int .i64 r.2.2]) ∧ PropRes n cl start r ∧ r.1.length ≤ c' ∧ kI.C w' A' r.1.length r.1 ∧ Below w.heap.size w w' := by
  have bad : ∀ w', ¬ (validC n cl = true ∧ start.all (startOk n) = true) → Below w.heap.size w w' → ∃ A' c' r, (Ending.returned (.tuple #[.slice none 0 0, .bool false, .int .i64 1])) = .returned (.tuple #[.slice A' r.1.length c', .bool r.2.1, .int .i64 r.2.2]) ∧ PropRes n cl start r ∧ r.1.length ≤ c' ∧ kI.C w' A' r.1.length r.1 ∧ Below w.heap.size w w' := fun w' h hb =>
    ⟨none, 0, ([], false, 1), rfl, by unfold PropRes; rw [if_neg h], Nat.le_refl _, (Kd.R_reads' (Kd.R_nil kI 3 w' w.heap.size (fun _ => True))).2.2, hb⟩
  by_cases hv : validC n cl = true
  · by_cases hst : start.all (startOk n) = true
    · refine (Propagate_good n A c cl As cs start w hr hc hf hs hsl hv hst).mono ?_
      rintro e w' ⟨v, r, b, rfl, hR, hok, hb⟩
      obtain ⟨A', c', rfl⟩ := Kd.R_slice hR
      exact ⟨A', c', (r, b, 0), rfl, propOk_res hv hst hok, (Kd.R_reads' hR).2.1, (Kd.R_reads' hR).2.2, hb⟩
    · refine (Propagate_bad n A c cl As cs start w hr hc hf hs hsl hv (by simpa using hst)).mono ?_
      rintro e w' ⟨rfl, hb⟩
      exact bad w' (fun h => hst h.2) hb
  · refine (Propagate_invalid n A c cl As cs start w hr hc hf (by simpa using hv)).mono ?_
    rintro e w' ⟨rfl, hb⟩
    exact bad w' (fun h => hv h.1) hb
theorem propRes_len {n : Int} {cl : List (List Int)} {st : List Int} {r : List Int × Bool × Int} (h : PropRes n cl st r) : r.1.length ≤ 4611686018427387904 := by
  unfold PropRes at h
  by_cases hc : validC n cl = true ∧ st.all (startOk n) = true
  · rw [if_pos hc] at h
    obtain ⟨⟨h0n, hn, _⟩, hcl⟩ := (validC_iff n cl).1 hc.1
    by_cases hx : Clash cl st
    · rw [(h.2.1 hx).1]; simp
    · obtain ⟨_, hi, hm⟩ := h.2.2 hx
      have hr : clauseOk n r.1 = true := (clauseOk_iff n r.1).2 ⟨hi, fun l hl => ((hm l).1 hl).range hcl (List.all_eq_true.1 hc.2)⟩
      have := clauseOk_length h0n hr
      omega
  · rw [if_neg hc] at h
    rw [h]; simp
theorem propRes_short {n : Int} {cl : List (List Int)} {st : List Int} {r : List Int × Bool × Int} (h : PropRes n cl st r) : r.1.length ≤ 65536 := by
  unfold PropRes at h
  by_cases hc : validC n cl = true ∧ st.all (startOk n) = true
  · rw [if_pos hc] at h
    obtain ⟨⟨h0n, hn, _⟩, hcl⟩ := (validC_iff n cl).1 hc.1
    by_cases hx : Clash cl st
    · rw [(h.2.1 hx).1]; simp
    · obtain ⟨_, hi, hm⟩ := h.2.2 hx
      have hr : clauseOk n r.1 = true := (clauseOk_iff n r.1).2 ⟨hi, fun l hl => ((hm l).1 hl).range hcl (List.all_eq_true.1 hc.2)⟩
      have := clauseOk_length h0n hr
      omega
  · rw [if_neg hc] at h
    rw [h]; simp
end Go.Proofs.YteaohgebocbehaaGreatDoor.Hand
end
section
/- What is propagated holds in every model that has what it starts from; propagating it again gives the same; slices.Contains as a plain test. Conditions: a valid formula, literals of its variables. -/
set_option linter.unusedVariables false
set_option linter.unusedSimpArgs false
namespace Go.Proofs.YteaohgebocbehaaGreatDoor.Plain
open Go.RowKit Go.Proofs.YteaohgebocbehaaGreatDoor.XA Go.Proofs.YteaohgebocbehaaGreatDoor.Hand Go.Proofs.YteaohgebocbehaaGreatDoorW.PrintWords
theorem index_ev (l : List Int) (a : Int) (hl : l.length ≤ 4611686018427387904) : ∀ (d : Nat) (i : Int), 0 ≤ i → i ≤ l.length → (l.length : Int) - i = d → ∃ r, Ev (fun k => slices_Index_int_int.l0 k l a (l.length : Int) i) r ∧ (0 ≤ r ↔ a ∈ l.drop i.toNat) := by
  intro d
  induction d with
  | zero =>
    intro i h0 h1 hd
    exact ⟨-1, Ev.step (f := fun _ => some (-1)) (fun k => by simp only [slices_Index_int_int.l0]; rw [if_neg (by omega)]) (Ev.now _), by rw [List.drop_eq_nil_of_le (by omega)]; simp⟩
  | succ d ih =>
    intro i h0 h1 hd
    have hlt : i < (l.length : Int) := by omega
    have hw : wrap64 (i + 1) = i + 1 := w64 (by omega) (by omega)
    rw [drop_rd h0 hlt]
    by_cases e : a = rd l i
    · refine ⟨i, Ev.step (f := fun _ => some i) (fun k => ?_) (Ev.now _), by simp [e, h0]⟩
      simp only [slices_Index_int_int.l0]
      rw [if_pos hlt, if_pos h0, if_pos hlt, if_pos e]
    · obtain ⟨r, hr, h⟩ := ih (i + 1) (by omega) (by omega) (by omega)
      refine ⟨r, Ev.step (fun k => ?_) hr, by rw [h]; simp [e]⟩
      simp only [slices_Index_int_int.l0]
      rw [if_pos hlt, if_pos h0, if_pos hlt, if_neg e, hw]
theorem contains_f (l : List Int) (a : Int) (hl : l.length ≤ 4611686018427387904) : Ev (fun k => slices_Contains_int_int.f k l a) (l.contains a) := by
  obtain ⟨r, hr, h⟩ := index_ev l a hl l.length 0 (by omega) (by omega) (by omega)
  have hr' : Ev (fun k => slices_Index_int_int.f k l a) r := hr
  refine Ev.congr (fun k => by unfold slices_Contains_int_int.f; rfl) (Ev.bind hr' ?_)
  have : decide (r ≥ 0) = l.contains a := by
    rw [show (0 : Int).toNat = 0 from rfl, List.drop_zero] at h
    rw [List.contains_eq_mem]
    exact decide_eq_decide.2 h
  rw [← this]
  exact Ev.now _
variable {n : Int} {cl : List (List Int)} {st m : List Int}
theorem model_only (hm : (m.length : Int) = n) (hok : mOk 0 m = true) {x : Int} (hx : x ∈ m) : x ≠ 0 ∧ -x ∉ m := by
  have key : ∀ (m : List Int) (i : Nat), mOk i m = true → ∀ x ∈ m, ∃ j : Nat, (i : Int) + 1 + j = x.natAbs ∧ m[j]? = some x := by
    intro m
    induction m with
    | nil => intro i _ x hx; cases hx
    | cons y t ih =>
      intro i h x hx
      simp only [mOk, Bool.and_eq_true, decide_eq_true_eq] at h
      rcases List.mem_cons.1 hx with rfl | hx
      · exact ⟨0, by omega, rfl⟩
      · obtain ⟨j, h1, h2⟩ := ih (i + 1) h.2 x hx
        exact ⟨j + 1, by omega, by simpa using h2⟩
  obtain ⟨j, h1, h2⟩ := key m 0 hok x hx
  refine ⟨by omega, fun hn => ?_⟩
  obtain ⟨j', h3, h4⟩ := key m 0 hok (-x) hn
  have : j = j' := by omega
  subst this
  rw [h2] at h4
  injection h4 with h4
  omega
theorem mAt_mem {x : Int} (hx : 1 ≤ x.natAbs) (hx2 : x.natAbs ≤ m.length) (h : mAt m x = true) : x ∈ m := by
  unfold mAt at h
  have h := of_decide_eq_true h
  rw [rd_get (by omega) (by omega)] at h
  rw [← h]
  exact List.getElem_mem _
/-- A model of the formula with the literals has what follows. -/
theorem UP.sound (h : holdsC n cl m = true) (hst : ∀ x ∈ st, x ∈ m) {l : Int} (hu : UP cl st l) : l ∈ m := by
  unfold holdsC at h
  simp only [Bool.and_eq_true, decide_eq_true_eq, List.all_eq_true] at h
  obtain ⟨hv, hmn, hok, hcl⟩ := h
  obtain ⟨⟨h0n, hn, _⟩, hck⟩ := (validC_iff n cl).1 hv
  induction hu with
  | start h => exact hst _ h
  | @unit c l hc hl _ ih =>
    obtain ⟨y, hy, hyt⟩ := List.any_eq_true.1 (hcl c hc)
    have hr := ((clauseOk_iff n c).1 (hck c hc)).2 y hy
    have hym := mAt_mem (by omega) (by omega) hyt
    by_cases e : y = l
    · rw [← e]; exact hym
    · exact absurd (ih y hy e) (model_only hmn hok hym).2
theorem no_clash (h : holdsC n cl m = true) (hst : ∀ x ∈ st, x ∈ m) : ¬ Clash cl st := by
  rintro (⟨l, h1, h2⟩ | hc)
  · have a := h1.sound h hst
    have b := h2.sound h hst
    unfold holdsC at h
    simp only [Bool.and_eq_true, decide_eq_true_eq, List.all_eq_true] at h
    exact (model_only h.2.1 h.2.2.1 a).2 b
  · unfold holdsC at h
    simp only [Bool.and_eq_true, decide_eq_true_eq, List.all_eq_true] at h
    have := h.2.2.2 [] hc
    simp at this
theorem UP.again {S : List Int} (hS : ∀ l, l ∈ S ↔ UP cl st l) {l : Int} : UP cl S l ↔ UP cl st l := by
  constructor
  · intro h
    induction h with
    | start h => exact (hS _).1 h
    | unit hc hl _ ih => exact UP.unit hc hl ih
  · intro h
    exact UP.start ((hS l).2 h)
/-- Propagating what was propagated gives the same. -/
theorem PropRes.again {r : List Int × Bool × Int} (h : PropRes n cl st r) (hv : validC n cl = true) (hst : st.all (startOk n) = true) (hr : r.2.1 = true) : PropRes n cl r.1 (r.1, true, 0) := by
  unfold PropRes at h
  rw [if_pos ⟨hv, hst⟩] at h
  obtain ⟨_, h2, h3⟩ := h
  have hnc : ¬ Clash cl st := fun hc => by rw [(h2 hc).2] at hr; cases hr
  obtain ⟨_, hi, hm⟩ := h3 hnc
  obtain ⟨⟨h0n, hn, _⟩, hcl⟩ := (validC_iff n cl).1 hv
  unfold PropRes
  have hok : r.1.all (startOk n) = true := by
    rw [List.all_eq_true]
    intro l hl
    have := ((hm l).1 hl).range hcl (List.all_eq_true.1 hst)
    simp [startOk, this]
  rw [if_pos ⟨hv, hok⟩]
  refine ⟨rfl, fun hc => absurd ?_ hnc, fun _ => ⟨rfl, hi, fun l => ?_⟩⟩
  · rcases hc with ⟨l, h1, h2⟩ | hc
    · exact Or.inl ⟨l, (UP.again hm).1 h1, (UP.again hm).1 h2⟩
    · exact Or.inr hc
  · exact (hm l).trans (UP.again hm).symm
/-- What the answers say of the arguments. -/
theorem PropRes.zero {r : List Int × Bool × Int} (h : PropRes n cl st r) (h0 : r.2.2 = 0) : validC n cl = true ∧ st.all (startOk n) = true := by
  unfold PropRes at h
  by_cases hc : validC n cl = true ∧ st.all (startOk n) = true
  · exact hc
  · rw [if_neg hc] at h
    rw [h] at h0
    cases h0
theorem PropRes.bad {r : List Int × Bool × Int} (h : PropRes n cl st r) (h0 : r.2.2 ≠ 0) : r = ([], false, 1) := by
  unfold PropRes at h
  by_cases hc : validC n cl = true ∧ st.all (startOk n) = true
  · rw [if_pos hc] at h
    exact absurd h.1 h0
  · rw [if_neg hc] at h
    exact h
theorem PropRes.false_ {r : List Int × Bool × Int} (h : PropRes n cl st r) (h0 : r.2.1 = false) : r.1 = [] := by
  unfold PropRes at h
  by_cases hc : validC n cl = true ∧ st.all (startOk n) = true
  · rw [if_pos hc] at h
    by_cases hx : Clash cl st
    · exact (h.2.1 hx).1
    · have := (h.2.2 hx).1
      rw [h0] at this
      cases this
  · rw [if_neg hc] at h
    rw [h]
/-- In a model that has the literals, propagation doesn't fail, and finds literals of the model. -/
theorem PropRes.model {r : List Int × Bool × Int} (h : PropRes n cl st r) (h0 : r.2.2 = 0) (hh : holdsC n cl m = true) (hst : ∀ x ∈ st, x ∈ m) : r.2.1 = true ∧ ∀ x ∈ r.1, x ∈ m := by
  have hz := h.zero h0
  unfold PropRes at h
  rw [if_pos hz] at h
  obtain ⟨a, b, c⟩ := h.2.2 (no_clash hh hst)
  exact ⟨a, fun x hx => ((c x).1 hx).sound hh hst⟩
theorem PropRes.start {r : List Int × Bool × Int} (h : PropRes n cl st r) (h0 : r.2.2 = 0) (h1 : r.2.1 = true) : ∀ x ∈ st, x ∈ r.1 := by
  have hz := h.zero h0
  unfold PropRes at h
  rw [if_pos hz] at h
  have hnc : ¬ Clash cl st := fun hc => by rw [(h.2.1 hc).2] at h1; cases h1
  exact fun x hx => ((h.2.2 hnc).2.2 x).2 (UP.start hx)
end Go.Proofs.YteaohgebocbehaaGreatDoor.Plain
end
section
/- CnfFollows: the walk: true at every formula, list and bits, given what the library's variables hold. -/
set_option linter.unusedVariables false
set_option linter.unusedSimpArgs false
namespace Go.Proofs.YteaohgebocbehaaGreatDoor.Hand
open Go.RowKit Go.Lib Go.Shelf Go.Proofs.YteaohgebocbehaaGreatDoor.Reg Go.Proofs.YteaohgebocbehaaGreatDoorW Go.Proofs.YteaohgebocbehaaGreatDoorW.PrintWords Go.Proofs.YteaohgebocbehaaGreatDoorW.PrintLast Go.Proofs.YteaohgebocbehaaGreatDoorW.PrintMore Go.Proofs.YteaohgebocbehaaGreatDoor.Plain Go.Proofs.YteaohgebocbehaaGreatDoor.XA Go.Proofs.YteaohgebocbehaaGreatDoor.Fam
attribute [local go_sem] max2_int min2_int max_two min_two max_three min_three max_four min_four
/-- The box of a list of numbers of the call's own, its row, the world since w. -/
structure MSt (w W : World) (g : Nat) (v : Value) (m : List Int) : Prop where
  b : W.heap[g]? = some (.cells #[v] 25 (0, 0))
  fam : Fam W w.heap.size (fun _ : Unit => 3) (fun _ => v) (fun _ => nI m)
  below : Below w.heap.size w W
  old : w.heap.size ≤ g
theorem MSt.later {w W W' : World} {g : Nat} {v : Value} {m : List Int} (h : MSt w W g v m) (hb : Below W.heap.size W W') : MSt w W' g v m := ⟨blk_below h.b hb, h.fam.below hb, below_step h.below hb, h.old⟩
theorem MSt.blk {w W : World} {g : Nat} {v : Value} {m : List Int} (h : MSt w W g v m) : v.ownBlock ≠ some g := h.fam.ne_blk h.b (fun _ => by decide) ()
theorem MSt.row {w W : World} {g : Nat} {v : Value} {m : List Int} (h : MSt w W g v m) : kI.R 3 W w.heap.size (fun _ => True) v m := by
  have h1 := h.fam.row ()
  rw [nI_length] at h1
  exact Kd.R_of_own h1 (fun _ _ => trivial)
/-- The row has grown: its new place is to be stored into the box. -/
theorem MSt.grow {w W W1 : World} {g : Nat} {v v1 : Value} {m : List Int} {x : Int} (h : MSt w W g v m) (ho : kI.R 3 W1 w.heap.size (fun _ => True) v1 (m ++ [x])) (hg : W.grownBy W1 v.ownBlock) (hat : v1.ownBlock = v.ownBlock ∨ ∃ b, v1.ownBlock = some b ∧ W.heap.size ≤ b) :
    W1.heap[g]? = some (.cells #[v] 25 (0, 0)) ∧ MSt w (W1.setCell ⟨g, 0, none⟩ v1) g v1 (m ++ [x]) := by
  have hbox : W1.heap[g]? = some (.cells #[v] 25 (0, 0)) := blk_grown h.b hg (fun e => h.blk e.symm)
  have hown := Kd.own_of_R ho
  have hF := h.fam.append () (v1 := v1) (l := nI (m ++ [x])) (W1 := W1) (by rw [nI_length]; exact hown) hg hat
  have hF2 := hF.far (p := ⟨g, 0, none⟩) (fun i => hF.ne_blk hbox (fun _ => by decide) i) v1
  refine ⟨hbox, ⟨(blk_set hbox 0 v1).trans rfl, hF2.congr (fun _ => by simp [upd]) (fun _ => by simp [upd]), (h.below.grown hg h.below.size (fun k hk => own_base (h.fam.row ()) k hk)).setCell (p := ⟨g, 0, none⟩) h.old _, h.old⟩⟩
theorem MSt.open_ {w W : World} {g : Nat} {v : Value} {m : List Int} (h : MSt w W g v m) (h0 : 0 < m.length) : ∃ gm cap cur, v = .slice (some ⟨gm, 0, none⟩) m.length cap ∧ w.heap.size ≤ gm ∧ gm ≠ g ∧ W.heap[gm]? = some (.cells cur 3 (0, 0)) ∧ m.length ≤ cur.size := by
  obtain ⟨gm, cap, cur, e, hb, hg, hs, hn, hc⟩ := h.fam.open_ () (by show 0 < (nI m).length; rw [nI_length]; exact h0)
  rw [nI_length] at e hn
  exact ⟨gm, cap, cur, e, hb, fun e3 => h.blk (by rw [e, e3]; rfl), hg, by omega⟩
theorem MSt.store {w W : World} {g gm k cap : Nat} {v : Value} {m : List Int} (h : MSt w W g v m) (hv : v = .slice (some ⟨gm, 0, none⟩) k cap) (hne : gm ≠ g) (hge : w.heap.size ≤ gm) (j : Nat) (x : Int) : MSt w (W.setCell ⟨gm, j, none⟩ (.int .i64 x)) g v (m.set j x) :=
  ⟨blk_far h.b (p := ⟨gm, j, none⟩) (Ne.symm hne) _, (h.fam.store () hv j (.int .i64 x)).congr (fun _ => rfl) (fun _ => by rw [show (() : Unit) = () from rfl, upd_same]; exact nI_set _ _ _), h.below.setCell (p := ⟨gm, j, none⟩) hge _, h.old⟩
theorem MSt.C {w W : World} {g : Nat} {A : Option Addr} {len c : Nat} {m : List Int} (h : MSt w W g (.slice A len c) m) : len = m.length ∧ m.length ≤ c ∧ kI.C W A m.length m := by
  have hr := h.row
  obtain ⟨A', c', e⟩ := Kd.R_slice hr
  injection e with e1 e2 e3
  subst e1 e2 e3
  exact ⟨rfl, (Kd.R_reads' hr).2.1, (Kd.R_reads' hr).2.2⟩
theorem foll1_enters : ∀ args w, (callFunc 33 args).run Tryz.prog w = .ok (.enter 33 args) w := Go.Proofs.enters_of Tryz.func33 (by kernel_rfl) rfl
set_option maxHeartbeats 4000000 in
set_option maxRecDepth 100000 in
theorem foll1_calls (b : Nat) (A : Option Addr) (c : Nat) (m : List Int) (x : Int) (W : World) (hb : W.heap[b]? = some (.cells #[.slice A m.length c] 25 (0, 0))) (hr : kI.C W A m.length m) (hc : m.length ≤ c) (hl : m.length ≤ 17592186044416) :
    Calls Tryz.prog 33 #[.int .i64 x, .pointer (some ⟨b, 0, none⟩)] W fun e w' => e = .returned (.bool (!m.contains x)) ∧ ∃ q, w' = W.drewN q := by
  have hcell : W.cell? ⟨b, 0, none⟩ = some (.slice A m.length c) := (blk_cell hb 0).trans rfl
  obtain ⟨k, hk⟩ := (contains_f m x (by omega)).rounds
  have HCALL := Aside0.mk (slices_Contains_int_int.calls k A c m x _ W hr hc hk)
  obtain ⟨cb, hcb⟩ : ∃ b, b = m.contains x := ⟨_, rfl⟩
  rw [← hcb] at HCALL ⊢
  clear hb hr hc hl hk hcb
  go_enter Tryz.func33, Tryz.ntmps33
  go_wp2_with (go_at_call 34; refine HCALL.out.mono ?_; rintro e w1 ⟨rfl, ⟨q, rfl⟩⟩)
  go_ret
  exact ⟨rfl, q, rfl⟩
theorem cf1_calls (A1 : Option Addr) (c1 : Nat) (st : List Int) (b : Nat) (A : Option Addr) (c : Nat) (m : List Int) (W : World) (hr1 : kI.C W A1 st.length st) (hl1 : st.length ≤ 17592186044416) (hb : W.heap[b]? = some (.cells #[.slice A m.length c] 25 (0, 0))) (hr : kI.C W A m.length m) (hc : m.length ≤ c) (hl : m.length ≤ 17592186044416) (r : Bool) (hres : r = st.any fun x => !m.contains x) :
    Calls Tryz.prog 32 #[.slice A1 st.length c1, .func (.func 33) #[] #[.pointer (some ⟨b, 0, none⟩)]] W fun e w' => e = .returned (.bool r) ∧ ∃ q, w' = W.drewN q := by
  subst hres
  exact containsFunc (fun x : Int => x) A1 c1 st st (by simp) W hr1 hl1 (fun x => !m.contains x) 33 #[.pointer (some ⟨b, 0, none⟩)] foll1_enters (fun h0 W' y hbW => foll1_calls b A c m y W' (blk_below hb hbW) (Kd.C_below hr hbW) hc hl)
theorem foll2_enters : ∀ args w, (callFunc 35 args).run Tryz.prog w = .ok (.enter 35 args) w := Go.Proofs.enters_of Tryz.func35 (by kernel_rfl) rfl
set_option maxHeartbeats 4000000 in
set_option maxRecDepth 100000 in
theorem foll2_calls (b : Nat) (A : Option Addr) (c : Nat) (m : List Int) (x : Int) (W : World) (hb : W.heap[b]? = some (.cells #[.slice A m.length c] 25 (0, 0))) (hr : kI.C W A m.length m) (hc : m.length ≤ c) (hl : m.length ≤ 17592186044416) :
    Calls Tryz.prog 35 #[.int .i64 x, .pointer (some ⟨b, 0, none⟩)] W fun e w' => e = .returned (.bool (!m.contains x)) ∧ ∃ q, w' = W.drewN q := by
  have hcell : W.cell? ⟨b, 0, none⟩ = some (.slice A m.length c) := (blk_cell hb 0).trans rfl
  obtain ⟨k, hk⟩ := (contains_f m x (by omega)).rounds
  have HCALL := Aside0.mk (slices_Contains_int_int.calls k A c m x _ W hr hc hk)
  obtain ⟨cb, hcb⟩ : ∃ b, b = m.contains x := ⟨_, rfl⟩
  rw [← hcb] at HCALL ⊢
  clear hb hr hc hl hk hcb
  go_enter Tryz.func35, Tryz.ntmps35
  go_wp2_with (go_at_call 34; refine HCALL.out.mono ?_; rintro e w1 ⟨rfl, ⟨q, rfl⟩⟩)
  go_ret
  exact ⟨rfl, q, rfl⟩
theorem cf2_calls (A1 : Option Addr) (c1 : Nat) (st : List Int) (b : Nat) (A : Option Addr) (c : Nat) (m : List Int) (W : World) (hr1 : kI.C W A1 st.length st) (hl1 : st.length ≤ 17592186044416) (hb : W.heap[b]? = some (.cells #[.slice A m.length c] 25 (0, 0))) (hr : kI.C W A m.length m) (hc : m.length ≤ c) (hl : m.length ≤ 17592186044416) (r : Bool) (hres : r = st.any fun x => !m.contains x) :
    Calls Tryz.prog 32 #[.slice A1 st.length c1, .func (.func 35) #[] #[.pointer (some ⟨b, 0, none⟩)]] W fun e w' => e = .returned (.bool r) ∧ ∃ q, w' = W.drewN q := by
  subst hres
  exact containsFunc (fun x : Int => x) A1 c1 st st (by simp) W hr1 hl1 (fun x => !m.contains x) 35 #[.pointer (some ⟨b, 0, none⟩)] foll2_enters (fun h0 W' y hbW => foll2_calls b A c m y W' (blk_below hb hbW) (Kd.C_below hr hbW) hc hl)
theorem foll3_enters : ∀ args w, (callFunc 36 args).run Tryz.prog w = .ok (.enter 36 args) w := Go.Proofs.enters_of Tryz.func36 (by kernel_rfl) rfl
set_option maxHeartbeats 4000000 in
set_option maxRecDepth 100000 in
theorem foll3_calls (b : Nat) (A : Option Addr) (c : Nat) (m : List Int) (x : Int) (W : World) (hb : W.heap[b]? = some (.cells #[.slice A m.length c] 25 (0, 0))) (hr : kI.C W A m.length m) (hc : m.length ≤ c) (hl : m.length ≤ 17592186044416) :
    Calls Tryz.prog 36 #[.int .i64 x, .pointer (some ⟨b, 0, none⟩)] W fun e w' => e = .returned (.bool (!m.contains x)) ∧ ∃ q, w' = W.drewN q := by
  have hcell : W.cell? ⟨b, 0, none⟩ = some (.slice A m.length c) := (blk_cell hb 0).trans rfl
  obtain ⟨k, hk⟩ := (contains_f m x (by omega)).rounds
  have HCALL := Aside0.mk (slices_Contains_int_int.calls k A c m x _ W hr hc hk)
  obtain ⟨cb, hcb⟩ : ∃ b, b = m.contains x := ⟨_, rfl⟩
  rw [← hcb] at HCALL ⊢
  clear hb hr hc hl hk hcb
  go_enter Tryz.func36, Tryz.ntmps36
  go_wp2_with (go_at_call 34; refine HCALL.out.mono ?_; rintro e w1 ⟨rfl, ⟨q, rfl⟩⟩)
  go_ret
  exact ⟨rfl, q, rfl⟩
theorem cf3_calls (A1 : Option Addr) (c1 : Nat) (st : List Int) (b : Nat) (A : Option Addr) (c : Nat) (m : List Int) (W : World) (hr1 : kI.C W A1 st.length st) (hl1 : st.length ≤ 17592186044416) (hb : W.heap[b]? = some (.cells #[.slice A m.length c] 25 (0, 0))) (hr : kI.C W A m.length m) (hc : m.length ≤ c) (hl : m.length ≤ 17592186044416) (r : Bool) (hres : r = st.any fun x => !m.contains x) :
    Calls Tryz.prog 32 #[.slice A1 st.length c1, .func (.func 36) #[] #[.pointer (some ⟨b, 0, none⟩)]] W fun e w' => e = .returned (.bool r) ∧ ∃ q, w' = W.drewN q := by
  subst hres
  exact containsFunc (fun x : Int => x) A1 c1 st st (by simp) W hr1 hl1 (fun x => !m.contains x) 36 #[.pointer (some ⟨b, 0, none⟩)] foll3_enters (fun h0 W' y hbW => foll3_calls b A c m y W' (blk_below hb hbW) (Kd.C_below hr hbW) hc hl)
set_option maxHeartbeats 32000000 in
set_option maxRecDepth 100000 in
theorem Follows_calls (n : Int) (A : Option Addr) (c : Nat) (cl : List (List Int)) (A1 : Option Addr) (c1 : Nat) (st : List Int) (bits : Int) (w : World) (hr : kL.C w A cl.length cl) (hc : cl.length ≤ c) (hr1 : kI.C w A1 st.length st) (hc1 : st.length ≤ c1) (hcl : cl.length ≤ 9223372036854775807) (hT : Tabs w) :
    Calls Tryz.prog 8 #[.agg #[.int .i64 n, .slice A cl.length c], .slice A1 st.length c1, .int .u16 bits] w fun e w' => e = .returned (.bool true) ∧ Below w.heap.size w w' := by
  have hu24 := Tryz.underlying24
  have HT := Aside0.mk hT
  have HR := Aside0.mk hr
  have HC := Aside0.mk hc
  have HR1 := Aside0.mk hr1
  have HC1 := Aside0.mk hc1
  have HCL := Aside0.mk hcl
  clear hT hr hc hr1 hc1 hcl
  go_enter Tryz.func8, Tryz.ntmps8
  go_wp2_with (first
    | ((with_reducible refine gate_dst (N := 3) rfl ?_); refine box_event ?hg (N := 3) ?hd (cs := #[.int .i64 n, .slice A cl.length c]) (t := 24) ?hr ?_; (case hd => rfl); (case hg => rfl); (case hr => first | (go_simp; done) | (go_simp; rfl)); intro g2 hg_ w2 h1_ h2_; have BK2 := Aside0.mk h1_; have HB2 := Aside0.mk h2_; have GEg2 := Aside0.mk hg_; clear h1_ h2_ hg_)
    | (go_at_call 10; refine (awake_calls w2 (HT.out.same HB2.out)).mono ?_; rintro e w3 ⟨rfl, hb⟩; have HL := Aside0.mk (LSt.later (⟨BK2.out, HB2.out⟩ : LSt w w2 g2 n A cl.length c) hb); have k0 := HL.out.cells.1; have k1 := HL.out.cells.2; clear hb))
  refine (small_calls n 12 40 A c cl w3 (Kd.C_below HR.out HL.out.below) HC.out HCL.out).mono ?_
  rintro e w4 ⟨rfl, hb⟩
  have HL4 := Aside0.mk (HL.out.later hb)
  obtain ⟨k40, k41⟩ := HL4.out.cells
  clear hb k0 k1 BK2 HB2 HL
  obtain ⟨sm, hsm⟩ : ∃ b, b = smallC n cl 12 40 := ⟨_, rfl⟩
  rw [← hsm]
  have HSM := Aside0.mk hsm
  clear hsm
  cases sm with
  | false =>
    go_wp2
    go_ret
    exact ⟨rfl, HL4.out.below⟩
  | true =>
    by_cases h2 : 12 < (st.length : Int)
    · have d2 : decide (12 < (st.length : Int)) = true := decide_eq_true h2
      clear h2
      go_wp2
      go_ret
      exact ⟨rfl, HL4.out.below⟩
    have d2 : decide (12 < (st.length : Int)) = false := decide_eq_false h2
    have H2 := Aside0.mk h2
    clear h2
    have HF := Aside0.mk (small_fine HSM.out.symm (by have := (small_true HSM.out.symm).2.2; omega))
    have HN12 := Aside0.mk (small_true HSM.out.symm).2.1
    go_wp2_with (fail)
    refine (prop_calls n A c cl A1 c1 st w4 (Kd.C_below HR.out HL4.out.below) HC.out HF.out (Kd.C_below HR1.out HL4.out.below) (by have := H2.out; omega)).mono ?_
    rintro e w5 ⟨A5, c5, r, rfl, hp, hc5, hr5, hb⟩
    have HL5 := Aside0.mk (HL4.out.later hb)
    have HP := Aside0.mk hp
    have H5 := Aside0.mk (And.intro hc5 hr5)
    have HRL := Aside0.mk (propRes_len hp)
    obtain ⟨k50, k51⟩ := HL5.out.cells
    clear hp hb hc5 hr5 k40 k41 HL4
    obtain ⟨r1, r2, r3⟩ := r
    simp only at H5 HRL ⊢
    by_cases h3 : r3 = 0
    · subst h3
      have HZ := Aside0.mk (HP.out.zero rfl)
      go_wp2_with (first
        | (((with_reducible refine gate_dst (N := 7) rfl ?_); refine box_event ?hg (N := 7) ?hd (cs := #[.slice none 0 0]) (t := 25) ?hr ?_; (case hd => rfl); (case hg => rfl); (case hr => first | (go_simp; done) | (go_simp; rfl)); intro g7 hg_ w6 h1_ h2_; have BK6 := Aside0.mk h1_; have HB6 := Aside0.mk h2_; have GEg7 := Aside0.mk hg_; clear h1_ h2_ hg_); have f7 := blk_frozen BK6.out 0; have c7 : w6.cell? ⟨g7, 0, none⟩ = some (.slice none 0 0) := (blk_cell BK6.out 0).trans rfl)
        | ((with_reducible refine gate_ (.store 25 (.tmp 7) (.tmp 31)) rfl ?_); refine Fam.st_cell rfl rfl 25 (.tmp 7) (.tmp 31) rfl (g := g7) (i := 0) (T := 25) (cur := #[.slice none 0 0]) (u := .slice A5 r1.length c5) rfl rfl ints_size rfl rfl BK6.out (by decide) ?_; intro w7 hw7; have HX7 := Aside0.mk (show Below w5.heap.size w5 w7 from by rw [hw7]; exact HB6.out.setCell (p := ⟨g7, 0, none⟩) (by rw [GEg7.out]; exact Nat.le_refl _) _); have HK7 := Aside0.mk (show w7.heap[g7]? = some (.cells #[.slice A5 r1.length c5] 25 (0, 0)) from by rw [hw7]; exact (blk_set BK6.out 0 _).trans rfl); clear hw7))
      have HL7 := Aside0.mk (HL5.out.later HX7.out)
      have H7 := Aside0.mk (And.intro H5.out.1 (Kd.C_below H5.out.2 HX7.out))
      clear f7 c7 BK6 HB6 GEg7 HX7 HL5 H5 k50 k51
      go_loopw [49] (fun v49 wr => ∃ x : Int, v49 = .int .i64 x ∧ Aside0 (0 ≤ x ∧ x ≤ st.length) ∧ Aside0 (Below w7.heap.size w7 wr)) (fun v49 _ => st.length - (intOf v49).toNat)
      case atStart => exact ⟨0, rfl, ⟨by omega, by omega⟩, ⟨Below.refl _ _⟩⟩
      case round =>
        obtain ⟨x, rfl, HX, HBR⟩ := hrel
        by_cases c1' : x < (st.length : Int)
        · have p0 := HX.out.1
          have hst12 := H2.out
          obtain ⟨a, ha⟩ : ∃ a : Int, a = x + 1 := ⟨_, rfl⟩
          have ka : IntKind.i64.wrap (x + 1) = a := (IntWalk.i64_in _ (by omega)).trans ha.symm
          have ka2 : wrap64 (x + 1) = a := by unfold wrap64; omega
          have h1 : decide (x < (st.length : Int)) = true := decide_eq_true c1'
          have hone : (st.take a.toNat).drop x.toNat = [PrintWords.rd st x] := by
            rw [show a.toNat = x.toNat + 1 by omega, List.take_add_one, List.drop_append_of_le_length (by rw [List.length_take]; omega), List.drop_eq_nil_of_le (by rw [List.length_take]; omega), List.getElem?_eq_getElem (by omega), rd_get p0 c1']
            rfl
          obtain ⟨i015, hi015, _, hsz15, _⟩ := info_parts info3
          obtain ⟨A15, hcut15, hA15, hC15⟩ := print_mid_of (P := Tryz.prog) (Value.int .i64) 0 25 3 .i64 .i64 Tryz.underlying25 hi015 hsz15 A1 c1 st x a p0 (by omega) (by omega) HC1.out
          rw [hone] at hA15 hC15
          simp only [hone, List.length_singleton] at hcut15
          have HR15 := Aside0.mk (show kI.C w A15 1 [PrintWords.rd st x] from Kd.C_of_reads (h1 := fun _ => rfl) (hA15 _ (Kd.reads_of_C HR1.out)))
          have hsok : startOk n (PrintWords.rd st x) = true := List.all_eq_true.1 HZ.out.2 _ (by rw [rd_get p0 c1']; exact List.getElem_mem _)
          have hcok : clauseOk n [PrintWords.rd st x] = true := by
            unfold clauseOk startOk at *
            simp only [nOk, Bool.and_true]
            exact decide_eq_true (by have := of_decide_eq_true hsok; omega)
          have h0n := ((validC_iff _ _).1 HZ.out.1).1
          obtain ⟨kq, hkq⟩ := (isClause_f n h0n.1 (by omega) [PrintWords.rd st x] (by simp)).rounds
          rw [hcok] at hkq
          have HKQ := Aside0.mk hkq
          have HC15 := Aside0.mk hC15
          have HA := Aside0.mk ha
          have C1 := Aside0.mk c1'
          have HLR := Aside0.mk (HL7.out.later HBR.out)
          have s0 := HLR.out.cells.1
          clear hkq hcok hsok h0n hA15 hC15 hi015 hsz15 hone ha c1' p0 hst12
          go_wp2
          refine start_ (n := 9) (S := fun W' => W'.cell? ⟨g2, 0, none⟩ = some (.int .i64 n)) (ds := []) #[false, false, false, false, false, false, false, false, false] (by kernel_rfl) rfl rfl (s0) (fun hHeld => ?_)
          refine pure_ (i := 0) (N := some 52) (v := ?_) (a' := ?_) #[true, false, false, false, false, false, false, false, false] rfl rfl (by kernel_rfl) (fun _ _ _ h => h) (Or.inl ⟨by rfl, ?_⟩) ?_ ?_
          rotate_left
          · intro w'
            go_simp
            with_reducible rfl
          rotate_left
          · simp only [Act.put, sA, sZ, sS, i64_w]
            rfl
          refine pure_ (i := 1) (N := some 53) (v := ?_) (a' := ?_) #[true, true, false, false, false, false, false, false, false] rfl rfl (by kernel_rfl) (fun _ _ _ h => h) (Or.inl ⟨by rfl, ?_⟩) ?_ ?_
          rotate_left
          · intro w'
            go_simp
            with_reducible rfl
          rotate_left
          · simp only [Act.put, sA, sZ, sS, i64_w]
            rfl
          refine pure_ (i := 2) (N := some 54) (v := ?_) (a' := ?_) #[true, true, true, false, false, false, false, false, false] rfl rfl (by kernel_rfl) (fun _ _ _ h => h) (Or.inl ⟨by rfl, ?_⟩) ?_ ?_
          rotate_left
          · intro w'
            go_simp
            with_reducible rfl
          rotate_left
          · simp only [Act.put, sA, sZ, sS, i64_w]
            rfl
          refine pure_ (i := 3) (N := some 55) (v := ?_) (a' := ?_) #[true, true, true, true, false, false, false, false, false] rfl rfl (by kernel_rfl) (fun _ _ _ h => h) (Or.inl ⟨by rfl, ?_⟩) ?_ ?_
          rotate_left
          · intro w'
            go_simp
            with_reducible rfl
          rotate_left
          · simp only [Act.put, sA, sZ, sS, i64_w]
            rfl
          refine pure_ (i := 4) (N := some 56) (v := ?_) (a' := ?_) #[true, true, true, true, true, false, false, false, false] rfl rfl (by kernel_rfl) (fun _ _ _ h => h) (Or.inl ⟨by rfl, ?_⟩) ?_ ?_
          rotate_left
          · intro w'
            go_simp
            with_reducible rfl
          rotate_left
          · simp only [Act.put, sA, sZ, sS, i64_w]
            rfl
          refine pure_ (i := 5) (N := some 57) (v := ?_) (a' := ?_) #[true, true, true, true, true, true, false, false, false] rfl rfl (by kernel_rfl) (fun _ _ _ h => h) (Or.inl ⟨by rfl, ?_⟩) ?_ ?_
          rotate_left
          · intro w'
            go_simp
            with_reducible rfl
          rotate_left
          · simp only [Act.put, sA, sZ, sS, i64_w]
            rfl
          refine take_ (i := 6) (N := some 58) (v := ?_) (a' := ?_) #[true, true, true, true, true, true, true, false, false] rfl rfl (by kernel_rfl) (fun _ _ _ h => h) (Or.inl ⟨by rfl, ?_⟩) hHeld ?_ ?_
          rotate_left
          · rintro w' s0_
            go_simp
            with_reducible rfl
          rotate_left
          · simp only [Act.put, sA, sZ, sS, i64_w]
            rfl
          refine one_ (i := 7) (N := some 59) #[true, true, true, true, true, true, true, true, false] rfl rfl (by kernel_rfl) (by decide) (fun K hK => ?_)
          refine call_ 30 #[.slice A15 1 (c1 - x.toNat), .int .i64 n] (by rfl) rfl (by go_simp; try rfl) ?_
          refine (assessorref26_IsClause.calls kq A15 (c1 - x.toNat) [PrintWords.rd st x] n true wr.drew (Kd.C_below HR15.out (below_step HLR.out.below (below_drewN wr 1))) HC15.out HKQ.out).mono ?_
          rintro e w8 ⟨rfl, hb⟩
          have HB8 := Aside0.mk (below_step HBR.out (below_step (below_drewN wr 1) hb))
          have t0 := (HL7.out.later HB8.out).cells.1
          clear hb
          refine ⟨_, rfl, ?_⟩
          refine hK.out _ _ t0 (fun hHeld => ?_)
          clear hK K
          refine norm_ (a' := ?_) ?_ ?_
          rotate_left
          · show Act.put _ (some 59) _ = _
            simp only [Act.put, sA, sZ, sS, i64_w]
            rfl
          refine pure_ (i := 8) (N := some 60) (v := ?_) (a' := ?_) #[true, true, true, true, true, true, true, true, true] rfl rfl (by kernel_rfl) (fun _ _ _ h => h) (Or.inl ⟨by rfl, ?_⟩) ?_ ?_
          rotate_left
          · intro w'
            go_simp
            with_reducible rfl
          rotate_left
          · simp only [Act.put, sA, sZ, sS, i64_w]
            rfl
          refine done_ (by kernel_rfl) ?_
          go_wp2
          go_roundw
          case rel => exact ⟨a, rfl, ⟨by have := HA.out; have := HX.out.1; omega, by have := HA.out; have := C1.out; omega⟩, HB8⟩
          case measure =>
            have := C1.out; have := HX.out.1; have := HA.out
            simp [intOf]; omega
        · have h1 : decide (x < (st.length : Int)) = false := decide_eq_false c1'
          clear c1'
          rename World => wb
          go_wp2_with (((with_reducible refine gate_dst (N := 11) rfl ?_); refine box_event ?hg (N := 11) ?hd (cs := #[.slice none 0 0]) (t := 25) ?hr ?_; (case hd => rfl); (case hg => rfl); (case hr => first | (go_simp; done) | (go_simp; rfl)); intro g11 hg_ w9 h1_ h2_; have BK9 := Aside0.mk h1_; have HB9 := Aside0.mk h2_; have GEg11 := Aside0.mk hg_; clear h1_ h2_ hg_))
          have TS : Aside0 (MSt wb w9 g11 (.slice none 0 0) []) := ⟨⟨BK9.out, Fam.nil _ _ _, HB9.out, by rw [GEg11.out]; exact Nat.le_refl _⟩⟩
          clear BK9 HB9 GEg11
          have HLR := Aside0.mk (HL7.out.later HBR.out)
          have HKR := Aside0.mk (blk_below HK7.out HBR.out)
          have hn0 := ((validC_iff _ _).1 HZ.out.1).1.1
          have HN0 := Aside0.mk hn0
          clear hn0
          go_wp2
          go_loopw [12] (fun v12 wr => ∃ (x : Int) (v : Value) (m : List Int), v12 = .int .i64 x ∧ Aside0 (1 ≤ x ∧ x ≤ n + 1 ∧ (m.length : Int) = x - 1) ∧ Aside0 (MSt wb wr g11 v m)) (fun v12 _ => (n + 2).toNat - (intOf v12).toNat)
          case atStart => exact ⟨1, _, [], rfl, ⟨by omega, by have := HN0.out; omega, by simp⟩, TS⟩
          case round =>
            clear TS
            obtain ⟨x, v, m, rfl, HX2, TS⟩ := hrel
            have HLQ := Aside0.mk (HLR.out.later TS.out.below)
            have s0 := HLQ.out.cells.1
            obtain ⟨Av, cv, ev⟩ := Kd.R_slice TS.out.row
            subst ev
            have f3 : wr.cell? ⟨g11, 0, none⟩ = some (.slice Av m.length cv) := (blk_cell TS.out.b 0).trans rfl
            by_cases c2 : x ≤ n
            · have hn12 := HN12.out
              have hx2 := HX2.out
              obtain ⟨a, ha⟩ : ∃ a : Int, a = x + 1 := ⟨_, rfl⟩
              obtain ⟨y, hy⟩ : ∃ a : Int, a = x - 1 := ⟨_, rfl⟩
              obtain ⟨z, hz⟩ : ∃ a : Int, a = -x := ⟨_, rfl⟩
              have ka : IntKind.i64.wrap (x + 1) = a := (IntWalk.i64_in _ (by omega)).trans ha.symm
              have ka2 : wrap64 (x + 1) = a := by unfold wrap64; omega
              have ky : IntKind.i64.wrap (x - 1) = y := (IntWalk.i64_in _ (by omega)).trans hy.symm
              have ky2 : wrap64 (x - 1) = y := by unfold wrap64; omega
              have kz : IntKind.i64.wrap (-x) = z := (IntWalk.i64_in _ (by omega)).trans hz.symm
              have kz2 : wrap64 (-x) = z := by unfold wrap64; omega
              have h2 : decide (x ≤ n) = true := decide_eq_true c2
              have p1 : (0 ≤ y) = True := eq_true (by omega)
              have p1d : decide (0 ≤ y) = true := decide_eq_true (by omega)
              have p1n : (y < 0) = False := eq_false (by omega)
              have p1nd : decide (y < 0) = false := decide_eq_false (by omega)
              have HA2 := Aside0.mk (And.intro ha c2)
              have HQ2 : Aside0 ((m.length + 1) * 8 ≤ 140737488355328) := ⟨by omega⟩
              have HRW := Aside0.mk TS.out.row
              clear ha hy hz c2 hn12 hx2
              go_wp2_with (first
                | (at_builtin; refine Kd.R_append kI (w0 := wb) (W := wr) wb.heap.size rfl (.tmp 74) (.tmp 76) 25 3 (.int .i64 0) 8 rfl Tryz.underlying25 int_info rfl (by decide) (by omega) (.slice Av m.length cv) m x [.int .i64 x] (fun _ => True) (fun _ => False) rfl rfl rfl (fun _ hk => hk.elim) (fun _ _ => trivial) HRW.out TS.out.below TS.out.below.size HQ2.out ?_; intro v2 w2 ho hb hg hat; obtain ⟨A2, c2, e2⟩ := Kd.R_slice ho; subst e2; have hn := TS.out.grow ho hg hat; simp only [List.length_append, List.length_singleton] at hn; have HNW := Aside0.mk hn; clear hn; have f5 : w2.frozen? ⟨g11, 0, none⟩ = false := blk_frozen HNW.out.1 0; have b52 : w2.cell? ⟨g11, 0, none⟩ = some (.slice Av m.length cv) := (blk_cell HNW.out.1 0).trans rfl; clear ho hb hg hat)
                | (at_builtin; refine Kd.R_append kI (w0 := wb) (W := wr) wb.heap.size rfl (.tmp 78) (.tmp 81) 25 3 (.int .i64 0) 8 rfl Tryz.underlying25 int_info rfl (by decide) (by omega) (.slice Av m.length cv) m z [.int .i64 z] (fun _ => True) (fun _ => False) rfl rfl rfl (fun _ hk => hk.elim) (fun _ _ => trivial) HRW.out TS.out.below TS.out.below.size HQ2.out ?_; intro v2 w2 ho hb hg hat; obtain ⟨A2, c2, e2⟩ := Kd.R_slice ho; subst e2; have hn := TS.out.grow ho hg hat; simp only [List.length_append, List.length_singleton] at hn; have HNW := Aside0.mk hn; clear hn; have f5 : w2.frozen? ⟨g11, 0, none⟩ = false := blk_frozen HNW.out.1 0; have b52 : w2.cell? ⟨g11, 0, none⟩ = some (.slice Av m.length cv) := (blk_cell HNW.out.1 0).trans rfl; clear ho hb hg hat))
              all_goals
                go_roundw
                case rel => exact ⟨a, _, _, rfl, ⟨by have := HA2.out; have := HX2.out.1; omega, by have := HA2.out; omega, by have := HA2.out.1; have := HX2.out.2.2; simp only [List.length_append, List.length_singleton]; omega⟩, ⟨HNW.out.2⟩⟩
                case measure =>
                  have := HA2.out; have := HX2.out.1
                  simp [intOf]; omega
            · have h2 : decide (x ≤ n) = false := decide_eq_false c2
              have HML := Aside0.mk (show (m.length : Int) = n by have := HX2.out; omega)
              clear c2 HX2
              go_wp2
              go_loopw [85] (fun v85 wr => ∃ (x : Int) (m' : List Int), v85 = .int .i64 x ∧ Aside0 (0 ≤ x ∧ x ≤ st.length ∧ (m'.length : Int) = n) ∧ Aside0 (MSt wb wr g11 (.slice Av m.length cv) m')) (fun v85 _ => st.length - (intOf v85).toNat)
              case atStart => exact ⟨0, m, rfl, ⟨by omega, by omega, HML.out⟩, TS⟩
              case round =>
                clear TS f3 HLQ s0
                obtain ⟨x, m', rfl, HX3, TS⟩ := hrel
                obtain ⟨hml, hmc, hmr⟩ := TS.out.C
                have f3 : wr.cell? ⟨g11, 0, none⟩ = some (.slice Av m.length cv) := (blk_cell TS.out.b 0).trans rfl
                by_cases c3 : x < (st.length : Int)
                · have p0 := HX3.out.1
                  have hn12 := HN12.out
                  have hl12 := H2.out
                  obtain ⟨ad, e1, hx0⟩ := Kd.at_int HR1.out x p0 c3
                  cases e1
                  have hbw : Below w.heap.size w wr := below_step HLR.out.below TS.out.below
                  have hx1 := (hbw.cell (World.block_lt_of_cell? w _ hx0)).trans hx0
                  have hsok : startOk n (PrintWords.rd st x) = true := List.all_eq_true.1 HZ.out.2 _ (by rw [rd_get p0 c3]; exact List.getElem_mem _)
                  have hsr : PrintWords.rd st x ≠ 0 ∧ -n ≤ PrintWords.rd st x ∧ PrintWords.rd st x ≤ n := by simpa [startOk] using hsok
                  obtain ⟨xx, hxx⟩ : ∃ y, y = PrintWords.rd st x := ⟨_, rfl⟩
                  rw [← hxx] at hx1 hsr
                  obtain ⟨gm, cap, cur, evm, hgm, hgn, hgb, hgs⟩ := TS.out.open_ (by have := HX3.out.2.2; omega)
                  injection evm with e4 e5 e6
                  subst e4 e6
                  obtain ⟨y, hy⟩ : ∃ a : Int, a = xx.natAbs := ⟨_, rfl⟩
                  obtain ⟨z, hz⟩ : ∃ a : Int, a = y - 1 := ⟨_, rfl⟩
                  obtain ⟨a, ha⟩ : ∃ a : Int, a = x + 1 := ⟨_, rfl⟩
                  have ka : IntKind.i64.wrap (x + 1) = a := (IntWalk.i64_in _ (by omega)).trans ha.symm
                  have ka2 : wrap64 (x + 1) = a := by unfold wrap64; omega
                  have kz : IntKind.i64.wrap (y - 1) = z := (IntWalk.i64_in _ (by omega)).trans hz.symm
                  have kz2 : wrap64 (y - 1) = z := by unfold wrap64; omega
                  have h2' : decide (x < (st.length : Int)) = true := decide_eq_true c3
                  have p1 : (0 ≤ x) = True := eq_true p0
                  have q1 : (x < (st.length : Int)) = True := eq_true c3
                  have hm3 := HX3.out.2.2
                  have p2 : (0 ≤ z) = True := eq_true (by omega)
                  have q2 : (z < (m.length : Int)) = True := eq_true (by omega)
                  have q3 : (z < (m'.length : Int)) = True := eq_true (by omega)
                  have hvar := rvar_f (x := xx) (by omega) (by omega)
                  rw [← hy] at hvar
                  have HVAR := Aside0.mk hvar
                  have HGM := Aside0.mk (And.intro hgb (And.intro (show z.toNat < cur.size by omega) (And.intro hgn hgm)))
                  have HA3 := Aside0.mk (And.intro ha c3)
                  clear hvar hgb hgs hgn hgm hm3 ha c3 hz hy hsr hsok hx0 hbw hl12 hn12 hmr hmc hxx e5 p0
                  go_wp2
                  refine start_ (n := 7) (S := fun W' => W'.cell? ⟨g11, 0, none⟩ = some (.slice (some ⟨gm, 0, none⟩) m.length cv)) (ds := [6]) #[false, false, false, false, false, false, false] (by kernel_rfl) rfl rfl (f3) (fun hHeld => ?_)
                  refine take_ (i := 0) (N := some 89) (v := ?_) (a' := ?_) #[true, false, false, false, false, false, false] rfl rfl (by kernel_rfl) (fun _ _ _ h => h) (Or.inl ⟨by rfl, ?_⟩) hHeld ?_ ?_
                  rotate_left
                  · rintro w' s0_
                    go_simp
                    with_reducible rfl
                  rotate_left
                  · simp only [Act.put, sA, sZ, sS, i64_w]
                    rfl
                  refine pure_ (i := 1) (N := some 90) (v := ?_) (a' := ?_) #[true, true, false, false, false, false, false] rfl rfl (by kernel_rfl) (fun _ _ _ h => h) (Or.inl ⟨by rfl, ?_⟩) ?_ ?_
                  rotate_left
                  · intro w'
                    go_simp
                    with_reducible rfl
                  rotate_left
                  · simp only [Act.put, sA, sZ, sS, i64_w]
                    rfl
                  refine pure_ (i := 4) (N := some 93) (v := ?_) (a' := ?_) #[true, true, false, false, true, false, false] rfl rfl (by kernel_rfl) (fun _ _ _ h => h) (Or.inl ⟨by rfl, ?_⟩) ?_ ?_
                  rotate_left
                  · intro w'
                    go_simp
                    with_reducible rfl
                  rotate_left
                  · simp only [Act.put, sA, sZ, sS, i64_w]
                    rfl
                  refine one_ (i := 2) (N := some 91) #[true, true, true, false, true, false, false] rfl rfl (by kernel_rfl) (by decide) (fun K hK => ?_)
                  refine call_ 31 #[.int .i64 xx] (by rfl) rfl (by go_simp; try rfl) ?_
                  refine (assessorref26_Variable.calls xx y wr.drew HVAR.out).mono ?_
                  rintro e w8 ⟨rfl, ⟨qd, rfl⟩⟩
                  refine ⟨_, rfl, ?_⟩
                  refine hK.out _ _ f3 (fun hHeld => ?_)
                  clear hK K
                  refine norm_ (a' := ?_) ?_ ?_
                  rotate_left
                  · show Act.put _ (some 91) _ = _
                    simp only [Act.put, sA, sZ, sS, i64_w]
                    rfl
                  refine pure_ (i := 3) (N := some 92) (v := ?_) (a' := ?_) #[true, true, true, true, true, false, false] rfl rfl (by kernel_rfl) (fun _ _ _ h => h) (Or.inl ⟨by rfl, ?_⟩) ?_ ?_
                  rotate_left
                  · intro w'
                    go_simp
                    with_reducible rfl
                  rotate_left
                  · simp only [Act.put, sA, sZ, sS, i64_w]
                    rfl
                  refine pure_ (i := 5) (N := some 94) (v := ?_) (a' := ?_) #[true, true, true, true, true, true, false] rfl rfl (by kernel_rfl) (fun _ _ _ h => h) (Or.inl ⟨by rfl, ?_⟩) ?_ ?_
                  rotate_left
                  · intro w'
                    go_simp
                    with_reducible rfl
                  rotate_left
                  · simp only [Act.put, sA, sZ, sS, i64_w]
                    rfl
                  refine last_ (i := 6) (N := none) #[true, true, true, true, true, true, true] rfl rfl (by kernel_rfl) (by decide) (fun K hK => ?_)
                  refine Reg.st_ (by rfl) 3 (.tmp 94) (.tmp 93) rfl (g := gm) (i := z.toNat) (T := 3) (cur := cur) (u := .int .i64 xx) rfl rfl int_size rfl rfl HGM.out.1 HGM.out.2.1 ?_
                  refine hK.out _ _ ?_
                  clear hK K
                  refine done_ (by kernel_rfl) ?_
                  have TS9 : Aside0 (MSt wb ((wr.drewN (1 + qd)).setCell ⟨gm, z.toNat, none⟩ (.int .i64 xx)) g11 (.slice (some ⟨gm, 0, none⟩) m.length cv) (m'.set z.toNat xx)) := ⟨(TS.out.later (below_drewN wr (1 + qd))).store rfl HGM.out.2.2.1 HGM.out.2.2.2 _ _⟩
                  go_wp2
                  go_roundw
                  case rel => exact ⟨a, _, rfl, ⟨by have := HA3.out; have := HX3.out.1; omega, by have := HA3.out; omega, by rw [List.length_set]; exact HX3.out.2.2⟩, TS9⟩
                  case measure =>
                    have := HA3.out; have := HX3.out.1
                    simp [intOf]; omega
                · have h2' : decide (x < (st.length : Int)) = false := decide_eq_false c3
                  have HM3 := Aside0.mk HX3.out.2.2
                  have HMR := Aside0.mk (And.intro hmc hmr)
                  have HL3 := Aside0.mk (HLR.out.later TS.out.below)
                  have HB3 := Aside0.mk TS.out.b
                  have HK3 := Aside0.mk (blk_below HKR.out TS.out.below)
                  have HW3 := Aside0.mk (below_step HBR.out TS.out.below)
                  obtain ⟨s0, s1⟩ := HL3.out.cells
                  clear c3 HX3
                  rw [hml] at HB3 f3 ⊢
                  clear hml hmc hmr HML HX
                  obtain ⟨hb2, hhb⟩ : ∃ b, b = holdsC n cl m' := ⟨_, rfl⟩
                  obtain ⟨sb, hsb⟩ : ∃ b, b = st.any fun x => !m'.contains x := ⟨_, rfl⟩
                  have hml12 : m'.length ≤ 17592186044416 := by have := HM3.out; have := HN12.out; omega
                  have hst12 : st.length ≤ 17592186044416 := by have := H2.out; omega
                  have hr112 : r1.length ≤ 4611686018427387904 := HRL.out
                  have HHC := Aside0.mk (show ∀ W, Below wr.heap.size wr W → Calls Tryz.prog 17 #[.agg #[.int .i64 n, .slice A cl.length c], .slice Av m'.length cv] W (fun e w' => e = .returned (.bool hb2) ∧ Below W.heap.size W w') from fun W hW => by rw [hhb]; exact Holds_calls n A c cl Av cv m' W (Kd.C_below HR.out (below_step HL3.out.below hW)) HC.out HF.out (Kd.C_below HMR.out.2 hW) hml12)
                  have HCF := Aside0.mk (show ∀ W, Below wr.heap.size wr W → Calls Tryz.prog 32 #[.slice A1 st.length c1, .func (.func 33) #[] #[.pointer (some ⟨g11, 0, none⟩)]] W (fun e w' => e = .returned (.bool sb) ∧ ∃ q, w' = W.drewN q) from fun W hW => cf1_calls A1 c1 st g11 Av cv m' W (Kd.C_below HR1.out (below_step HL3.out.below hW)) hst12 (blk_below HB3.out hW) (Kd.C_below HMR.out.2 hW) HMR.out.1 hml12 sb hsb)
                  have HCF3 := Aside0.mk (show ∀ W, Below wr.heap.size wr W → (∀ x ∈ st, x ∈ r1) → Calls Tryz.prog 32 #[.slice A1 st.length c1, .func (.func 36) #[] #[.pointer (some ⟨g7, 0, none⟩)]] W (fun e w' => e = .returned (.bool false) ∧ ∃ q, w' = W.drewN q) from fun W hW hs => cf3_calls A1 c1 st g7 A5 c5 r1 W (Kd.C_below HR1.out (below_step HL3.out.below hW)) hst12 (blk_below HK3.out hW) (Kd.C_below H7.out.2 (below_step HW3.out hW)) H7.out.1 (by have : r1.length ≤ 65536 := propRes_short HP.out; omega) false (by rw [eq_comm, List.any_eq_false]; intro x hx; simp [hs x hx]))
                  have HCF2 := Aside0.mk (show ∀ W, Below wr.heap.size wr W → (∀ x ∈ r1, x ∈ m') → Calls Tryz.prog 32 #[.slice A5 r1.length c5, .func (.func 35) #[] #[.pointer (some ⟨g11, 0, none⟩)]] W (fun e w' => e = .returned (.bool false) ∧ ∃ q, w' = W.drewN q) from fun W hW hs => cf2_calls A5 c5 r1 g11 Av cv m' W (Kd.C_below H7.out.2 (below_step HW3.out hW)) (by have : r1.length ≤ 65536 := propRes_short HP.out; omega) (blk_below HB3.out hW) (Kd.C_below HMR.out.2 hW) HMR.out.1 hml12 false (by rw [eq_comm, List.any_eq_false]; intro x hx; simp [hs x hx]))
                  have HHB := Aside0.mk hhb
                  have HSB := Aside0.mk hsb
                  clear hhb hsb hml12 hst12 hr112
                  cases hb2 with
                  | false =>
                    cases r2 with
                    | false =>
                      have hnil := HP.out.false_ rfl
                      simp only at hnil
                      have hz0 : ((r1.length : Int) == 0) = true := by rw [hnil]; rfl
                      clear hnil
                      go_wp2_with (go_at_call 17; refine (HHC.out _ (Below.refl _ _)).mono ?_; rintro e w10 ⟨rfl, hb⟩; have HB10 := Aside0.mk hb; have HL10 := Aside0.mk (HL3.out.later hb); have HK10 := Aside0.mk (blk_below HK3.out hb); have q0 := HL10.out.cells.1; have q1 := HL10.out.cells.2; have q2 : w10.cell? ⟨g7, 0, none⟩ = some (.slice A5 r1.length c5) := (blk_cell HK10.out 0).trans rfl; clear hb)
                      go_ret
                      exact ⟨rfl, HL10.out.below⟩
                    | true =>
                      go_wp2_with (go_at_call 17; refine (HHC.out _ (Below.refl _ _)).mono ?_; rintro e w10 ⟨rfl, hb⟩; have HB10 := Aside0.mk hb; have HL10 := Aside0.mk (HL3.out.later hb); have HK10 := Aside0.mk (blk_below HK3.out hb); have q0 := HL10.out.cells.1; have q1 := HL10.out.cells.2; have q2 : w10.cell? ⟨g7, 0, none⟩ = some (.slice A5 r1.length c5) := (blk_cell HK10.out 0).trans rfl; clear hb)
                      refine (prop_calls n A c cl A5 c5 r1 w10 (Kd.C_below HR.out (below_step HL3.out.below HB10.out)) HC.out HF.out (Kd.C_below H7.out.2 (below_step HW3.out HB10.out)) (by have : r1.length ≤ 65536 := propRes_short HP.out; omega)).mono ?_
                      rintro e w21 ⟨A9, c9, q, rfl, hp, hc9, hr9, hb⟩
                      obtain rfl := PropRes.unique hp (HP.out.again HZ.out.1 HZ.out.2 rfl)
                      have HB21 := Aside0.mk (below_step HB10.out hb)
                      have H9 := Aside0.mk (And.intro hc9 hr9)
                      have HK21 := Aside0.mk (blk_below HK3.out HB21.out)
                      have t2 : w21.cell? ⟨g7, 0, none⟩ = some (.slice A5 r1.length c5) := (blk_cell HK21.out 0).trans rfl
                      clear hp hb hc9 hr9
                      simp only at H9 ⊢
                      go_wp2_with (first
                        | (go_at_call 14; refine (eqs_calls A9 c9 A5 c5 r1 w21 H9.out.2 H9.out.1 (Kd.C_below H7.out.2 (below_step HW3.out HB21.out)) H7.out.1 HRL.out).mono ?_; rintro e w22 ⟨rfl, hd⟩; have HB22 := Aside0.mk (below_step HB21.out hd.below); clear hd)
                        | (go_at_call 32; refine (HCF3.out w22 HB22.out (HP.out.start rfl rfl)).mono ?_; rintro e w23 ⟨rfl, ⟨qe, hqe⟩⟩; have HB23 := Aside0.mk (show Below wr.heap.size wr w23 by rw [hqe]; exact below_step HB22.out (below_drewN w22 qe)); clear hqe))
                      go_ret
                      exact ⟨rfl, below_step HL3.out.below HB23.out⟩
                  | true =>
                    cases sb with
                    | true =>
                      cases r2 with
                      | false =>
                        have hnil := HP.out.false_ rfl
                        simp only at hnil
                        have hz0 : ((r1.length : Int) == 0) = true := by rw [hnil]; rfl
                        clear hnil
                        go_wp2_with (first
                          | (go_at_call 17; refine (HHC.out _ (Below.refl _ _)).mono ?_; rintro e w9 ⟨rfl, hb⟩; have HB9 := Aside0.mk hb; clear hb)
                          | (go_at_call 32; refine (HCF.out w9 HB9.out).mono ?_; rintro e w10 ⟨rfl, ⟨qd, hqd⟩⟩; have HB10 := Aside0.mk (show Below wr.heap.size wr w10 by rw [hqd]; exact below_step HB9.out (below_drewN w9 qd)); have HL10 := Aside0.mk (HL3.out.later HB10.out); have HK10 := Aside0.mk (blk_below HK3.out HB10.out); have q0 := HL10.out.cells.1; have q1 := HL10.out.cells.2; have q2 : w10.cell? ⟨g7, 0, none⟩ = some (.slice A5 r1.length c5) := (blk_cell HK10.out 0).trans rfl; clear hqd))
                        go_ret
                        exact ⟨rfl, HL10.out.below⟩
                      | true =>
                        go_wp2_with (first
                          | (go_at_call 17; refine (HHC.out _ (Below.refl _ _)).mono ?_; rintro e w9 ⟨rfl, hb⟩; have HB9 := Aside0.mk hb; clear hb)
                          | (go_at_call 32; refine (HCF.out w9 HB9.out).mono ?_; rintro e w10 ⟨rfl, ⟨qd, hqd⟩⟩; have HB10 := Aside0.mk (show Below wr.heap.size wr w10 by rw [hqd]; exact below_step HB9.out (below_drewN w9 qd)); have HL10 := Aside0.mk (HL3.out.later HB10.out); have HK10 := Aside0.mk (blk_below HK3.out HB10.out); have q0 := HL10.out.cells.1; have q1 := HL10.out.cells.2; have q2 : w10.cell? ⟨g7, 0, none⟩ = some (.slice A5 r1.length c5) := (blk_cell HK10.out 0).trans rfl; clear hqd))
                        refine (prop_calls n A c cl A5 c5 r1 w10 (Kd.C_below HR.out (below_step HL3.out.below HB10.out)) HC.out HF.out (Kd.C_below H7.out.2 (below_step HW3.out HB10.out)) (by have : r1.length ≤ 65536 := propRes_short HP.out; omega)).mono ?_
                        rintro e w21 ⟨A9, c9, q, rfl, hp, hc9, hr9, hb⟩
                        obtain rfl := PropRes.unique hp (HP.out.again HZ.out.1 HZ.out.2 rfl)
                        have HB21 := Aside0.mk (below_step HB10.out hb)
                        have H9 := Aside0.mk (And.intro hc9 hr9)
                        have HK21 := Aside0.mk (blk_below HK3.out HB21.out)
                        have t2 : w21.cell? ⟨g7, 0, none⟩ = some (.slice A5 r1.length c5) := (blk_cell HK21.out 0).trans rfl
                        clear hp hb hc9 hr9
                        simp only at H9 ⊢
                        go_wp2_with (first
                          | (go_at_call 14; refine (eqs_calls A9 c9 A5 c5 r1 w21 H9.out.2 H9.out.1 (Kd.C_below H7.out.2 (below_step HW3.out HB21.out)) H7.out.1 HRL.out).mono ?_; rintro e w22 ⟨rfl, hd⟩; have HB22 := Aside0.mk (below_step HB21.out hd.below); clear hd)
                          | (go_at_call 32; refine (HCF3.out w22 HB22.out (HP.out.start rfl rfl)).mono ?_; rintro e w23 ⟨rfl, ⟨qe, hqe⟩⟩; have HB23 := Aside0.mk (show Below wr.heap.size wr w23 by rw [hqe]; exact below_step HB22.out (below_drewN w22 qe)); clear hqe))
                        go_ret
                        exact ⟨rfl, below_step HL3.out.below HB23.out⟩
                    | false =>
                      have hall : ∀ x ∈ st, x ∈ m' := fun x hx => by
                        have h := HSB.out
                        rw [eq_comm, List.any_eq_false] at h
                        simpa using h x hx
                      obtain ⟨hok, hin⟩ := HP.out.model (m := m') rfl HHB.out.symm hall
                      simp only at hok hin
                      subst hok
                      have HIN := Aside0.mk hin
                      clear hin hall
                      go_wp2_with (first
                        | (go_at_call 17; refine (HHC.out _ (Below.refl _ _)).mono ?_; rintro e w9 ⟨rfl, hb⟩; have HB9 := Aside0.mk hb; clear hb)
                        | (go_at_call 32; refine (HCF.out w9 HB9.out).mono ?_; rintro e w10 ⟨rfl, ⟨qd, hqd⟩⟩; have HB10 := Aside0.mk (show Below wr.heap.size wr w10 by rw [hqd]; exact below_step HB9.out (below_drewN w9 qd)); have HL10 := Aside0.mk (HL3.out.later HB10.out); have HK10 := Aside0.mk (blk_below HK3.out HB10.out); have q2 : w10.cell? ⟨g7, 0, none⟩ = some (.slice A5 r1.length c5) := (blk_cell HK10.out 0).trans rfl; clear hqd))
                      refine (HCF2.out w10 HB10.out HIN.out).mono ?_
                      rintro e w11 ⟨rfl, ⟨qf, hqf⟩⟩
                      have HB11 := Aside0.mk (show Below wr.heap.size wr w11 by rw [hqf]; exact below_step HB10.out (below_drewN w10 qf))
                      have HL11 := Aside0.mk (HL3.out.later HB11.out)
                      have HK11 := Aside0.mk (blk_below HK3.out HB11.out)
                      have q0 := HL11.out.cells.1
                      have q1 := HL11.out.cells.2
                      have q3 : w11.cell? ⟨g7, 0, none⟩ = some (.slice A5 r1.length c5) := (blk_cell HK11.out 0).trans rfl
                      clear hqf
                      go_wp2_with (fail)
                      refine (prop_calls n A c cl A5 c5 r1 w11 (Kd.C_below HR.out (below_step HL3.out.below HB11.out)) HC.out HF.out (Kd.C_below H7.out.2 (below_step HW3.out HB11.out)) (by have : r1.length ≤ 65536 := propRes_short HP.out; omega)).mono ?_
                      rintro e w21 ⟨A9, c9, q, rfl, hp, hc9, hr9, hb⟩
                      obtain rfl := PropRes.unique hp (HP.out.again HZ.out.1 HZ.out.2 rfl)
                      have HB21 := Aside0.mk (below_step HB11.out hb)
                      have H9 := Aside0.mk (And.intro hc9 hr9)
                      have HK21 := Aside0.mk (blk_below HK3.out HB21.out)
                      have t2 : w21.cell? ⟨g7, 0, none⟩ = some (.slice A5 r1.length c5) := (blk_cell HK21.out 0).trans rfl
                      clear hp hb hc9 hr9
                      simp only at H9 ⊢
                      go_wp2_with (first
                        | (go_at_call 14; refine (eqs_calls A9 c9 A5 c5 r1 w21 H9.out.2 H9.out.1 (Kd.C_below H7.out.2 (below_step HW3.out HB21.out)) H7.out.1 HRL.out).mono ?_; rintro e w22 ⟨rfl, hd⟩; have HB22 := Aside0.mk (below_step HB21.out hd.below); clear hd)
                        | (go_at_call 32; refine (HCF3.out w22 HB22.out (HP.out.start rfl rfl)).mono ?_; rintro e w23 ⟨rfl, ⟨qe, hqe⟩⟩; have HB23 := Aside0.mk (show Below wr.heap.size wr w23 by rw [hqe]; exact below_step HB22.out (below_drewN w22 qe)); clear hqe))
                      go_ret
                      exact ⟨rfl, below_step HL3.out.below HB23.out⟩
    · have hbad := HP.out.bad (by simpa using h3)
      simp only [Prod.mk.injEq] at hbad
      obtain ⟨rfl, rfl, rfl⟩ := hbad
      clear h3
      go_wp2_with (first
        | (((with_reducible refine gate_dst (N := 7) rfl ?_); refine box_event ?hg (N := 7) ?hd (cs := #[.slice none 0 0]) (t := 25) ?hr ?_; (case hd => rfl); (case hg => rfl); (case hr => first | (go_simp; done) | (go_simp; rfl)); intro g7 hg_ w6 h1_ h2_; have BK6 := Aside0.mk h1_; have HB6 := Aside0.mk h2_; have GEg7 := Aside0.mk hg_; clear h1_ h2_ hg_); have f7 := blk_frozen BK6.out 0; have c7 : w6.cell? ⟨g7, 0, none⟩ = some (.slice none 0 0) := (blk_cell BK6.out 0).trans rfl))
      go_ret
      exact ⟨rfl, below_step HL5.out.below (HB6.out.setCell (p := ⟨g7, 0, none⟩) (by rw [GEg7.out]; exact Nat.le_refl _) _)⟩
end Go.Proofs.YteaohgebocbehaaGreatDoor.Hand
end
