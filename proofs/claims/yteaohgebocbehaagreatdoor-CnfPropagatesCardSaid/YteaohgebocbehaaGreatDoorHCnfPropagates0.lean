/- Texts of this claim, one behind the other; each begins with what it proves. Conditions as written in each theorem. -/
import Derived.Test.YteaohgebocbehaaGreatDoorHC0
import Derived.Test.YteaohgebocbehaaGreatDoorHC1
import Derived.Test.YteaohgebocbehaaGreatDoorXAx3
import Derived.Test.YteaohgebocbehaaGreatDoorXAx5
import Derived.Test.YteaohgebocbehaaGreatDoorXAx6
import Derived.Test.YteaohgebocbehaaGreatDoorXAx11
import Derived.Test.YteaohgebocbehaaGreatDoorXAx12
section
/- Unit propagation as an inductive set, and that the plain steps of cnf.Propagate find just this set, or a clash in it. Conditions: the clauses and literals are of variables up to n. -/
set_option linter.unusedVariables false
set_option linter.unusedSimpArgs false
namespace Go.Proofs.YteaohgebocbehaaGreatDoor.Plain
open Go.RowKit Go.Proofs.YteaohgebocbehaaGreatDoorW.PrintWords
/-- What follows by unit propagation. -/
inductive UP (cl : List (List Int)) (st : List Int) : Int → Prop
  | start {l : Int} (h : l ∈ st) : UP cl st l
  | unit {c : List Int} {l : Int} (hc : c ∈ cl) (hl : l ∈ c) (h : ∀ x ∈ c, x ≠ l → UP cl st (-x)) : UP cl st l
def Clash (cl : List (List Int)) (st : List Int) : Prop := (∃ l, UP cl st l ∧ UP cl st (-l)) ∨ [] ∈ cl
/-- A list that holds what it starts from and is closed holds what follows. -/
theorem UP.closed {cl : List (List Int)} {st S : List Int} (h1 : ∀ l ∈ st, l ∈ S) (h2 : ∀ c ∈ cl, ∀ l ∈ c, (∀ x ∈ c, x ≠ l → -x ∈ S) → l ∈ S) {l : Int} (h : UP cl st l) : l ∈ S := by
  induction h with
  | start h => exact h1 _ h
  | unit hc hl _ ih => exact h2 _ hc _ hl ih
theorem UP.range {n : Int} {cl : List (List Int)} {st : List Int} (hcl : ∀ c ∈ cl, clauseOk n c = true) (hst : ∀ l ∈ st, startOk n l = true) {l : Int} (h : UP cl st l) : l ≠ 0 ∧ -n ≤ l ∧ l ≤ n := by
  cases h with
  | start h => simpa [startOk] using hst _ h
  | unit hc hl _ => exact ((clauseOk_iff n _).1 (hcl _ hc)).2 _ hl
theorem clash_of_excluded {cl : List (List Int)} {st c : List Int} (hc : c ∈ cl) (h : ∀ x ∈ c, UP cl st (-x)) : Clash cl st := by
  cases c with
  | nil => exact Or.inr hc
  | cons x t => exact Or.inl ⟨x, UP.unit hc List.mem_cons_self (fun y hy _ => h y hy), h x List.mem_cons_self⟩
/-- The literals of a clause that P does not exclude. -/
def free (P c : List Int) : List Int := c.filter fun x => !(P.contains (-x))
theorem mem_free {P c : List Int} {x : Int} : x ∈ free P c ↔ x ∈ c ∧ -x ∉ P := by simp [free]
theorem free_nil (c : List Int) : free [] c = c := by simp [free]
theorem free_same {P c : List Int} {p : Int} (h : -p ∉ c) : free (P ++ [p]) c = free P c := by
  unfold free
  apply List.filter_congr
  intro x hx
  have hp : -x ≠ p := fun e => h (by rw [← e]; simpa using hx)
  simp [hp]
theorem free_less {P c : List Int} {p : Int} (hnd : c.Nodup) (hp : p ∉ P) (h : -p ∈ c) : (free (P ++ [p]) c).length + 1 = (free P c).length := by
  have e : free (P ++ [p]) c = (free P c).filter fun x => !(x == -p) := by
    unfold free
    rw [List.filter_filter]
    apply List.filter_congr
    intro x hx
    have hq : -x = p ↔ x = -p := by omega
    by_cases e : x = -p
    · simp [e, hq]
    · have e3 : ¬ -x = p := fun h => e (hq.1 h)
      simp [e, e3]
  have hm : -p ∈ free P c := mem_free.2 ⟨h, by simpa using hp⟩
  have hn : (free P c).Nodup := hnd.filter _
  have e2 : ((free P c).filter fun x => !(x == -p)) = (free P c).erase (-p) := by
    rw [hn.erase_eq_filter]
    apply List.filter_congr
    intro x hx
    rfl
  rw [e, e2, List.length_erase_of_mem hm]
  have := List.length_pos_of_mem hm
  omega
theorem clause_nodup {n : Int} {c : List Int} (h : clauseOk n c = true) : c.Nodup := by
  have h1 := ((clauseOk_iff n c).1 h).1
  unfold Inc at h1
  exact h1.imp fun h e => by rw [e] at h; omega
theorem rd_set {v : List Int} {j : Nat} {u : Int} (x : Nat) (hj : j < v.length) : rd (v.set j u) (x : Int) = if j = x then u else rd v (x : Int) := by
  unfold rd
  simp only [Int.toNat_natCast, List.getD_eq_getElem?_getD, List.getElem?_set]
  split
  · rename_i e
    subst e
    simp [hj]
  · rfl
/-- What holds of the set after each step: clause i has been told of the literals pr i; those that tr holds of have been looked at. -/
structure UInv (n : Int) (cl : List (List Int)) (st : List Int) (pr : Nat → List Int) (tr : Nat → Prop) (s : PS) : Prop where
  val : (s.value.length : Int) = n + 1
  v1 : ∀ l : Int, l ≠ 0 → -n ≤ l → l ≤ n → (l ∈ s.list ↔ rd s.value (l.natAbs : Int) = l)
  v2 : ∀ l : Int, l ≠ 0 → -n ≤ l → l ≤ n → rd s.value (l.natAbs : Int) = 0 ∨ rd s.value (l.natAbs : Int) = l ∨ rd s.value (l.natAbs : Int) = -l
  lits : ∀ l ∈ s.list, l ≠ 0 ∧ -n ≤ l ∧ l ≤ n
  nd : s.list.Nodup
  up : ∀ l ∈ s.list, UP cl st l
  fl : s.fails = true → Clash cl st
  lft : ∀ (i : Nat) (c : List Int), cl[i]? = some c → rd s.left (i : Int) = ((free (pr i) c).length : Int)
  sub : ∀ (i : Nat), ∀ l ∈ pr i, l ∈ s.list
  lkd : ∀ (i : Nat) (c : List Int), cl[i]? = some c → tr i → (free (pr i) c = [] → s.fails = true) ∧ ∀ y, free (pr i) c = [y] → s.fails = true ∨ y ∈ s.list ∨ -y ∈ s.list
variable {n : Int} {cl : List (List Int)} {st : List Int} {pr : Nat → List Int} {tr : Nat → Prop} {s : PS}
theorem UInv.fail (h : UInv n cl st pr tr s) (hc : Clash cl st) : UInv n cl st pr tr { s with fails := true } :=
  ⟨h.val, h.v1, h.v2, h.lits, h.nd, h.up, fun _ => hc, h.lft, h.sub, fun i c hi ht => ⟨fun _ => rfl, fun _ _ => Or.inl rfl⟩⟩
theorem UInv.add (h : UInv n cl st pr tr s) {l : Int} (h0 : l ≠ 0) (h1 : -n ≤ l) (h2 : l ≤ n) (hu : UP cl st l) : UInv n cl st pr tr (s.add l) ∧ ((s.add l).fails = true ∨ l ∈ (s.add l).list) := by
  have hv := h.val
  have hj : l.natAbs < s.value.length := by omega
  unfold PS.add
  split
  · rename_i hz
    have hnl : ∀ x : Int, x.natAbs = l.natAbs → x ∉ s.list := fun x hx hm => by
      have hr := h.lits x hm
      have := (h.v1 x hr.1 hr.2.1 hr.2.2).1 hm
      rw [hx, hz] at this
      exact hr.1 this.symm
    refine ⟨⟨by simpa using h.val, fun x x0 x1 x2 => ?_, fun x x0 x1 x2 => ?_, fun x hx => ?_, ?_, fun x hx => ?_, h.fl, h.lft, fun i x hx => List.mem_append_left _ (h.sub i x hx), fun i c hi ht => ?_⟩, Or.inr (by simp)⟩
    · simp only [List.mem_append, List.mem_singleton]
      rw [rd_set _ hj]
      split
      · rename_i e
        constructor
        · rintro (hm | rfl)
          · exact absurd hm (hnl x e.symm)
          · rfl
        · intro e2; exact Or.inr e2.symm
      · rename_i e
        rw [← h.v1 x x0 x1 x2]
        constructor
        · rintro (hm | rfl)
          · exact hm
          · exact absurd rfl e
        · exact Or.inl
    · rw [rd_set _ hj]
      split
      · rename_i e
        omega
      · exact h.v2 x x0 x1 x2
    · rcases List.mem_append.1 hx with hx | hx
      · exact h.lits x hx
      · rw [List.mem_singleton.1 hx]; exact ⟨h0, h1, h2⟩
    · simp only
      rw [List.nodup_append]
      refine ⟨h.nd, by simp, fun x hx y hy e => ?_⟩
      rw [List.mem_singleton.1 hy] at e
      exact hnl l rfl (e ▸ hx)
    · rcases List.mem_append.1 hx with hx | hx
      · exact h.up x hx
      · rw [List.mem_singleton.1 hx]; exact hu
    · obtain ⟨a, b⟩ := h.lkd i c hi ht
      exact ⟨a, fun y hy => by
        rcases b y hy with b | b | b
        · exact Or.inl b
        · exact Or.inr (Or.inl (List.mem_append_left _ b))
        · exact Or.inr (Or.inr (List.mem_append_left _ b))⟩
  · rename_i hz
    split
    · rename_i hn
      have hm : -l ∈ s.list := (h.v1 (-l) (by omega) (by omega) (by omega)).2 (by rw [Int.natAbs_neg]; exact hn)
      exact ⟨h.fail (Or.inl ⟨l, hu, h.up _ hm⟩), Or.inl rfl⟩
    · rename_i hn
      refine ⟨h, Or.inr ((h.v1 l h0 h1 h2).2 ?_)⟩
      rcases h.v2 l h0 h1 h2 with e | e | e
      · exact absurd e hz
      · exact e
      · exact absurd e hn
/-- A further clause has been looked at. -/
theorem UInv.tried (h : UInv n cl st pr tr s) {i : Nat} (hi : ∀ c, cl[i]? = some c → (free (pr i) c = [] → s.fails = true) ∧ ∀ y, free (pr i) c = [y] → s.fails = true ∨ y ∈ s.list ∨ -y ∈ s.list) : UInv n cl st pr (fun k => tr k ∨ k = i) s :=
  ⟨h.val, h.v1, h.v2, h.lits, h.nd, h.up, h.fl, h.lft, h.sub, fun k c hk ht => by
    rcases ht with ht | rfl
    · exact h.lkd k c hk ht
    · exact hi c hk⟩
theorem UInv.tryC (hcl : ∀ c ∈ cl, clauseOk n c = true) (h : UInv n cl st pr tr s) {i : Nat} (hi : i < cl.length) : UInv n cl st pr (fun k => tr k ∨ k = i) (s.tryC cl (i : Int)) := by
  obtain ⟨c, hc⟩ : ∃ c, cl[i]? = some c := ⟨_, List.getElem?_eq_getElem hi⟩
  have hmem : c ∈ cl := List.mem_of_getElem? hc
  have hl := h.lft i c hc
  have hck := (clauseOk_iff n c).1 (hcl c hmem)
  have hup : ∀ x ∈ c, -x ∈ pr i → UP cl st (-x) := fun x _ hx => h.up _ (h.sub i _ hx)
  have hex : ∀ x ∈ c, x ∉ free (pr i) c → -x ∈ pr i := fun x hx hn => by
    apply Classical.byContradiction
    intro h3
    exact hn (mem_free.2 ⟨hx, h3⟩)
  unfold PS.tryC
  split
  · rename_i h2
    unfold PS.look
    split
    · rename_i hz
      rw [hz] at hl
      have he : free (pr i) c = [] := List.eq_nil_of_length_eq_zero (by omega)
      exact (h.fail (clash_of_excluded hmem fun x hx => hup x hx (hex x hx (by rw [he]; simp)))).tried fun _ _ => ⟨fun _ => rfl, fun _ _ => Or.inl rfl⟩
    · rename_i hz
      split
      · rename_i ho
        rw [ho] at hl
        obtain ⟨y, hy⟩ : ∃ y, free (pr i) c = [y] := List.length_eq_one_iff.1 (by omega)
        have hym : y ∈ c ∧ -y ∉ pr i := mem_free.1 (by rw [hy]; simp)
        have hunit : UP cl st y := UP.unit hmem hym.1 fun x hx hne => hup x hx (hex x hx (by rw [hy]; simpa using hne))
        have hg : cl.getD (i : Int).toNat [] = c := by rw [Int.toNat_natCast, List.getD_eq_getElem?_getD, hc]; rfl
        rw [hg]
        cases hf : c.find? fun l => decide (rd s.value (l.natAbs : Int) ≠ -l) with
        | some l =>
          have hlc := List.mem_of_find?_eq_some hf
          have hlv : rd s.value (l.natAbs : Int) ≠ -l := by simpa using List.find?_some hf
          have hr := hck.2 l hlc
          have hnl : -l ∉ s.list := fun hm => hlv (by have := (h.v1 (-l) (by omega) (by omega) (by omega)).1 hm; rwa [Int.natAbs_neg] at this)
          have hly : l = y := by
            have : l ∈ free (pr i) c := mem_free.2 ⟨hlc, fun hm => hnl (h.sub i _ hm)⟩
            rw [hy] at this
            simpa using this
          subst hly
          obtain ⟨a, b⟩ := h.add hr.1 hr.2.1 hr.2.2 hunit
          refine a.tried fun c' hc' => ?_
          obtain rfl := Option.some.inj (hc.symm.trans hc')
          refine ⟨fun e => (by rw [hy] at e; cases e), fun z hz => ?_⟩
          rw [hy] at hz
          obtain rfl : l = z := by simpa using hz
          rcases b with b | b
          · exact Or.inl b
          · exact Or.inr (Or.inl b)
        | none =>
          refine h.tried fun c' hc' => ?_
          obtain rfl := Option.some.inj (hc.symm.trans hc')
          refine ⟨fun e => (by rw [hy] at e; cases e), fun z hz => ?_⟩
          rw [hy] at hz
          obtain rfl : y = z := by simpa using hz
          have hr := hck.2 y hym.1
          have hv := List.find?_eq_none.1 hf y hym.1
          exact Or.inr (Or.inr ((h.v1 (-y) (by omega) (by omega) (by omega)).2 (by rw [Int.natAbs_neg]; simpa using hv)))
      · rename_i ho
        exfalso
        omega
  · rename_i h2
    refine h.tried fun c' hc' => ?_
    obtain rfl := Option.some.inj (hc.symm.trans hc')
    refine ⟨fun e => ?_, fun y e => ?_⟩
    · rw [e] at hl; simp at hl; omega
    · rw [e] at hl; simp at hl; omega
theorem UInv.tryFrom (hcl : ∀ c ∈ cl, clauseOk n c = true) : ∀ (d : Nat) (s : PS) (i : Nat), d + i = cl.length → UInv n cl st pr (fun k => k < i) s → UInv n cl st pr (fun k => k < cl.length) (PS.tryFrom cl d s (i : Int))
  | 0, s, i, hd, h => by
    rw [show i = cl.length by omega] at h
    exact h
  | d + 1, s, i, hd, h => by
    have h1 := h.tryC hcl (i := i) (by omega)
    have h2 : UInv n cl st pr (fun k => k < i + 1) (s.tryC cl (i : Int)) := ⟨h1.val, h1.v1, h1.v2, h1.lits, h1.nd, h1.up, h1.fl, h1.lft, h1.sub, fun k c hk ht => h1.lkd k c hk (by omega)⟩
    have h3 := UInv.tryFrom hcl d (s.tryC cl (i : Int)) (i + 1) (by omega) h2
    unfold PS.tryFrom
    exact h3
/-- A clause is told of a further literal. -/
theorem UInv.dec (hn : n ≤ 65536) (h0n : 0 ≤ n) (hcl : ∀ c ∈ cl, clauseOk n c = true) (h : UInv n cl st pr (fun k => k < cl.length) s) (hsl : s.left.length = cl.length) {i : Nat} {c : List Int} (hi : cl[i]? = some c) {p : Int} (hp : p ∈ s.list) (hpn : p ∉ pr i) (hc : -p ∈ c) :
    UInv n cl st (fun k => if k = i then pr i ++ [p] else pr k) (fun k => k < cl.length) (s.dec cl (i : Int)) := by
  have hlt : i < cl.length := (List.getElem?_eq_some_iff.1 hi).1
  have hmem : c ∈ cl := List.mem_of_getElem? hi
  have hl := h.lft i c hi
  have hlen := clauseOk_length h0n (hcl c hmem)
  have hle : (free (pr i) c).length ≤ c.length := List.length_filter_le _ _
  have hless := free_less (clause_nodup (hcl c hmem)) hpn hc
  have hw : wrap64 (rd s.left (i : Int) - 1) = ((free (pr i ++ [p]) c).length : Int) := by unfold wrap64; omega
  have h1 : UInv n cl st (fun k => if k = i then pr i ++ [p] else pr k) (fun k => k < cl.length ∧ k ≠ i) { s with left := s.left.set i (wrap64 (rd s.left (i : Int) - 1)) } :=
    ⟨h.val, h.v1, h.v2, h.lits, h.nd, h.up, h.fl, fun k d hk => by
      simp only
      rw [rd_set _ (by omega)]
      by_cases e : k = i
      · subst e
        obtain rfl := Option.some.inj (hi.symm.trans hk)
        rw [if_pos rfl, if_pos rfl]
        exact hw
      · rw [if_neg (Ne.symm e), if_neg e]
        exact h.lft k d hk, fun k l hk => by
      by_cases e : k = i
      · rw [if_pos e] at hk
        rcases List.mem_append.1 hk with hk | hk
        · exact h.sub i l hk
        · rw [List.mem_singleton.1 hk]; exact hp
      · rw [if_neg e] at hk
        exact h.sub k l hk, fun k d hk ht => by
      simp only [if_neg ht.2]
      exact h.lkd k d hk ht.1⟩
  have h2 := h1.tryC hcl hlt
  unfold PS.dec
  rw [Int.toNat_natCast]
  exact ⟨h2.val, h2.v1, h2.v2, h2.lits, h2.nd, h2.up, h2.fl, h2.lft, h2.sub, fun k d hk ht => h2.lkd k d hk (by show (k < cl.length ∧ k ≠ i) ∨ k = i; omega)⟩
theorem add_mem (s : PS) (l : Int) : ∀ x ∈ s.list, x ∈ (s.add l).list := by
  intro x hx
  unfold PS.add
  split
  · exact List.mem_append_left _ hx
  · split
    · exact hx
    · exact hx
theorem add_pre (s : PS) (l : Int) : s.list <+: (s.add l).list := by
  unfold PS.add
  split
  · exact List.prefix_append _ _
  · split
    · exact List.prefix_refl _
    · exact List.prefix_refl _
theorem add_left (s : PS) (l : Int) : (s.add l).left = s.left := by unfold PS.add; split; rfl; split <;> rfl
theorem look_keeps (cl : List (List Int)) (s : PS) (c : Int) : s.list <+: (s.look cl c).list ∧ (s.look cl c).left = s.left := by
  unfold PS.look
  split
  · exact ⟨List.prefix_refl _, rfl⟩
  · split
    · split
      · exact ⟨add_pre _ _, add_left _ _⟩
      · exact ⟨List.prefix_refl _, rfl⟩
    · exact ⟨List.prefix_refl _, rfl⟩
theorem tryC_keeps (cl : List (List Int)) (s : PS) (c : Int) : s.list <+: (s.tryC cl c).list ∧ (s.tryC cl c).left = s.left := by
  unfold PS.tryC
  split
  · exact look_keeps _ _ _
  · exact ⟨List.prefix_refl _, rfl⟩
theorem dec_keeps (cl : List (List Int)) (s : PS) (c : Int) : s.list <+: (s.dec cl c).list ∧ (s.dec cl c).left.length = s.left.length := by
  have h := tryC_keeps cl { s with left := s.left.set c.toNat (wrap64 (rd s.left c - 1)) } c
  unfold PS.dec
  exact ⟨h.1, by rw [h.2]; simp⟩
/-- All clauses with the opposite of a literal are told of it. -/
theorem UInv.decs (hn : n ≤ 65536) (h0n : 0 ≤ n) (hcl : ∀ c ∈ cl, clauseOk n c = true) (P : List Int) (p : Int) (hpP : p ∉ P) : ∀ (l : List Int) (pr : Nat → List Int) (s : PS), l.Nodup → (∀ x ∈ l, ∃ (i : Nat) (c : List Int), x = (i : Int) ∧ cl[i]? = some c ∧ -p ∈ c ∧ pr i = P) → (∀ k, pr k = P ∨ pr k = P ++ [p]) → UInv n cl st pr (fun k => k < cl.length) s → s.left.length = cl.length → p ∈ s.list →
    ∃ pr' : Nat → List Int, (∀ k : Nat, pr' k = if (k : Int) ∈ l then P ++ [p] else pr k) ∧ UInv n cl st pr' (fun k => k < cl.length) (l.foldl (PS.dec cl) s) ∧ (l.foldl (PS.dec cl) s).left.length = cl.length ∧ s.list <+: (l.foldl (PS.dec cl) s).list
  | [], pr, s, _, _, _, h, hl, hp => ⟨pr, fun k => by simp, h, hl, List.prefix_refl _⟩
  | x :: t, pr, s, hnd, hx, hpr, h, hl, hp => by
    obtain ⟨i, c, rfl, hi, hc, hpi⟩ := hx x List.mem_cons_self
    obtain ⟨hnx, hnt⟩ := List.nodup_cons.1 hnd
    have h1 := h.dec hn h0n hcl hl hi hp (by rw [hpi]; exact hpP) hc
    have hk := dec_keeps cl s (i : Int)
    obtain ⟨pr', e', h2, h3, h4⟩ := UInv.decs hn h0n hcl P p hpP t _ (s.dec cl (i : Int)) hnt (fun y hy => by
      obtain ⟨j, d, rfl, hj, hd, hpj⟩ := hx y (List.mem_cons_of_mem _ hy)
      refine ⟨j, d, rfl, hj, hd, ?_⟩
      rw [if_neg (fun e => hnx (by rw [← e]; exact hy))]
      exact hpj) (fun k => by
      by_cases e : k = i
      · exact Or.inr (by rw [if_pos e, hpi])
      · rw [if_neg e]; exact hpr k) h1 (by rw [hk.2]; exact hl) (hk.1.subset hp)
    refine ⟨pr', fun k => ?_, h2, h3, hk.1.trans h4⟩
    rw [e']
    by_cases e1 : (k : Int) ∈ t
    · simp [e1]
    · by_cases e2 : k = i
      · subst e2
        simp [e1, hpi]
      · have : (k : Int) ≠ (i : Int) := by omega
        simp [e1, e2, this]
/-- The clauses of a literal, by their numbers. -/
def occ (l : Int) : Nat → List (List Int) → List Int
  | _, [] => []
  | i, c :: t => (if l ∈ c then [(i : Int)] else []) ++ occ l (i + 1) t
theorem occ_mem (l : Int) : ∀ (cl : List (List Int)) (i : Nat) (x : Int), x ∈ occ l i cl ↔ ∃ (k : Nat) (c : List Int), x = ((i + k : Nat) : Int) ∧ cl[k]? = some c ∧ l ∈ c
  | [], i, x => by simp [occ]
  | d :: t, i, x => by
    simp only [occ, List.mem_append, occ_mem l t (i + 1) x]
    constructor
    · rintro (h | ⟨k, c, e, hk, hl⟩)
      · split at h
        · rename_i hd
          exact ⟨0, d, by simpa using h, rfl, hd⟩
        · cases h
      · exact ⟨k + 1, c, by rw [e]; omega, by simpa using hk, hl⟩
    · rintro ⟨k, c, e, hk, hl⟩
      cases k with
      | zero =>
        left
        simp only [List.getElem?_cons_zero, Option.some.injEq] at hk
        subst hk
        rw [if_pos hl]
        simpa using e
      | succ k => exact Or.inr ⟨k, c, by rw [e]; omega, by simpa using hk, hl⟩
theorem occ_nodup (l : Int) : ∀ (cl : List (List Int)) (i : Nat), (occ l i cl).Nodup
  | [], i => by simp [occ]
  | d :: t, i => by
    simp only [occ]
    rw [List.nodup_append]
    refine ⟨by split <;> simp, occ_nodup l t (i + 1), fun x hx y hy e => ?_⟩
    subst e
    obtain ⟨k, c, e, _, _⟩ := (occ_mem l t (i + 1) x).1 hy
    split at hx
    · have := List.mem_singleton.1 hx
      omega
    · cases hx
theorem idx_inj {x y : Int} (h : idx x = idx y) : x = y := by
  unfold idx at h
  split at h <;> split at h <;> omega
theorem idx_lt {n x : Int} (h1 : -n ≤ x) (h2 : x ≤ n) : (idx x : Int) < 2 * n + 2 := by
  unfold idx
  split <;> omega
theorem clause_places (i : Int) : ∀ (c : List Int) (s : PS), c.Nodup → (∀ x ∈ c, idx x < s.places.length) → ∀ l : Int, (c.foldl (PS.place i) s).places.getD (idx l) [] = s.places.getD (idx l) [] ++ (if l ∈ c then [i] else [])
  | [], s, _, _, l => by simp
  | x :: d, s, hnd, hx, l => by
    obtain ⟨h1, h2⟩ := List.nodup_cons.1 hnd
    have ih := clause_places i d (s.place i x) h2 (fun y hy => by simpa [PS.place] using hx y (List.mem_cons_of_mem _ hy)) l
    simp only [List.foldl_cons]
    rw [ih]
    have hl := hx x List.mem_cons_self
    have e : (s.place i x).places.getD (idx l) [] = s.places.getD (idx l) [] ++ (if l = x then [i] else []) := by
      simp only [PS.place, List.getD_eq_getElem?_getD, List.getElem?_set]
      by_cases hlx : l = x
      · subst hlx
        simp [hl]
      · have : idx x ≠ idx l := fun e => hlx (idx_inj e).symm
        simp [this, hlx]
    rw [e]
    by_cases hlx : l = x
    · subst hlx
      simp [h1]
    · simp [hlx]
theorem place_len (i : Int) : ∀ (c : List Int) (s : PS), (c.foldl (PS.place i) s).places.length = s.places.length ∧ (c.foldl (PS.place i) s).left = s.left
  | [], s => ⟨rfl, rfl⟩
  | x :: d, s => by
    have := place_len i d (s.place i x)
    simp only [List.foldl_cons]
    exact ⟨this.1.trans (by simp [PS.place]), this.2.trans rfl⟩
theorem fill_all {n : Int} : ∀ (cl : List (List Int)) (s : PS) (i : Nat), (∀ c ∈ cl, clauseOk n c = true) → (s.places.length : Int) = 2 * n + 2 →
    (∀ l : Int, (fillFrom s (i : Int) cl).places.getD (idx l) [] = s.places.getD (idx l) [] ++ occ l i cl) ∧ (fillFrom s (i : Int) cl).left = s.left ++ cl.map fun c => (c.length : Int)
  | [], s, i, _, _ => by simp [fillFrom, occ]
  | c :: t, s, i, hcl, hp => by
    have hc := hcl c List.mem_cons_self
    have hr := ((clauseOk_iff n c).1 hc).2
    have hpl := place_len (i : Int) c { s with left := s.left ++ [(c.length : Int)] }
    have hcp := clause_places (i : Int) c { s with left := s.left ++ [(c.length : Int)] } (clause_nodup hc) (fun x hx => by
      have h1 := hr x hx
      have := idx_lt h1.2.1 h1.2.2
      simp only
      omega)
    have ih := fill_all (n := n) t (s.clause (i : Int) c) (i + 1) (fun d hd => hcl d (List.mem_cons_of_mem _ hd)) (by unfold PS.clause; rw [hpl.1]; exact hp)
    simp only [fillFrom]
    refine ⟨fun l => ?_, ?_⟩
    · have := ih.1 l
      rw [show ((i : Int) + 1) = ((i + 1 : Nat) : Int) by omega, this]
      unfold PS.clause
      rw [hcp l]
      simp only [occ, List.append_assoc]
    · rw [show ((i : Int) + 1) = ((i + 1 : Nat) : Int) by omega, ih.2]
      unfold PS.clause
      rw [hpl.2]
      simp
theorem add_fails (s : PS) (l : Int) (h : s.fails = true) : (s.add l).fails = true := by
  unfold PS.add
  split
  · exact h
  · split
    · rfl
    · exact h
theorem UInv.adds : ∀ (l : List Int) (s : PS), (∀ x ∈ l, startOk n x = true ∧ x ∈ st) → UInv n cl st pr tr s → UInv n cl st pr tr (l.foldl PS.add s) ∧ (s.fails = true → (l.foldl PS.add s).fails = true) ∧ s.list <+: (l.foldl PS.add s).list ∧ ((l.foldl PS.add s).fails = true ∨ ∀ x ∈ l, x ∈ (l.foldl PS.add s).list)
  | [], s, _, h => ⟨h, fun h => h, List.prefix_refl _, Or.inr (by simp)⟩
  | x :: t, s, hx, h => by
    have hx0 := hx x List.mem_cons_self
    have hr : x ≠ 0 ∧ -n ≤ x ∧ x ≤ n := by simpa [startOk] using hx0.1
    obtain ⟨a, b⟩ := h.add hr.1 hr.2.1 hr.2.2 (UP.start hx0.2)
    obtain ⟨c1, c2, c3, c4⟩ := UInv.adds t (s.add x) (fun y hy => hx y (List.mem_cons_of_mem _ hy)) a
    refine ⟨c1, fun hf => c2 (add_fails _ _ hf), (add_pre s x).trans c3, ?_⟩
    rcases c4 with c4 | c4
    · exact Or.inl c4
    · rcases b with b | b
      · exact Or.inl (c2 b)
      · refine Or.inr fun y hy => ?_
        rcases List.mem_cons.1 hy with rfl | hy
        · exact c3.subset b
        · exact c4 y hy
theorem SInv.decs {m : Nat} (hcl : ∀ c ∈ cl, clauseOk n c = true) : ∀ (l : List Int) (s : PS), SInv n m s → SInv n m (l.foldl (PS.dec cl) s)
  | [], s, h => h
  | x :: t, s, h => SInv.decs hcl t _ (h.dec hcl x)
theorem decs_places : ∀ (l : List Int) (s : PS), (l.foldl (PS.dec cl) s).places = s.places
  | [], s => rfl
  | x :: t, s => (decs_places t _).trans (dec_places cl s x)
theorem UInv.run (hn : n ≤ 65536) (h0n : 0 ≤ n) (hcl : ∀ c ∈ cl, clauseOk n c = true) : ∀ (f : Nat) (s : PS) (k : Nat), n + 1 ≤ (f : Int) + k → k ≤ s.list.length → (∀ l : Int, s.places.getD (idx l) [] = occ l 0 cl) → SInv n cl.length s → UInv n cl st (fun _ => s.list.take k) (fun i => i < cl.length) s →
    ∃ P, UInv n cl st (fun _ => P) (fun i => i < cl.length) (PS.run cl f s (k : Int)) ∧ ((PS.run cl f s (k : Int)).fails = true ∨ P = (PS.run cl f s (k : Int)).list) ∧ s.list <+: (PS.run cl f s (k : Int)).list
  | 0, s, k, hf, hk, hp, hs, h => by
    have := hs.list_le
    exact ⟨_, h, Or.inr (List.take_of_length_le (by omega)), List.prefix_refl _⟩
  | f + 1, s, k, hf, hk, hp, hs, h => by
    by_cases hgo : (k : Int) < (s.list.length : Int) ∧ s.fails = false
    · rw [run_go cl f s k hgo]
      have hkl : k < s.list.length := by omega
      obtain ⟨p, hpe⟩ : ∃ p, p = s.list[k] := ⟨_, rfl⟩
      have hrd : rd s.list (k : Int) = p := by rw [rd_get (by omega) (by omega)]; simpa using hpe.symm
      have hpm : p ∈ s.list := by rw [hpe]; exact List.getElem_mem hkl
      have htk : s.list.take (k + 1) = s.list.take k ++ [p] := by rw [List.take_add_one, List.getElem?_eq_getElem hkl, hpe]; rfl
      have hpP : p ∉ s.list.take k := fun hm => by
        have hnd : (s.list.take (k + 1)).Nodup := h.nd.sublist (List.take_sublist _ _)
        rw [htk, List.nodup_append] at hnd
        exact hnd.2.2 p hm p (by simp) rfl
      rw [hrd, hp (-p)]
      obtain ⟨pr', e', h1, h2, h3⟩ := UInv.decs hn h0n hcl (s.list.take k) p hpP (occ (-p) 0 cl) (fun _ => s.list.take k) s (occ_nodup _ _ _) (fun x hx => by
        obtain ⟨j, c, e, hj, hc⟩ := (occ_mem (-p) cl 0 x).1 hx
        exact ⟨j, c, by simpa using e, hj, hc, rfl⟩) (fun _ => Or.inl rfl) h hs.left hpm
      obtain ⟨r, hr⟩ : ∃ r, r = (occ (-p) 0 cl).foldl (PS.dec cl) s := ⟨_, rfl⟩
      rw [← hr] at h1 h2 h3 ⊢
      have htk2 : r.list.take (k + 1) = s.list.take k ++ [p] := by
        obtain ⟨q, hq⟩ := h3
        rw [← hq, List.take_append_of_le_length (by omega), htk]
      have hfree : ∀ (i : Nat) (c : List Int), cl[i]? = some c → free (s.list.take k ++ [p]) c = free (pr' i) c := fun i c hi => by
        rw [e' i]
        split
        · rfl
        · rename_i hno
          exact free_same fun hm => hno ((occ_mem (-p) cl 0 i).2 ⟨i, c, by simp, hi, hm⟩)
      have h4 : UInv n cl st (fun _ => r.list.take (k + 1)) (fun i => i < cl.length) r := by
        rw [htk2]
        exact ⟨h1.val, h1.v1, h1.v2, h1.lits, h1.nd, h1.up, h1.fl, fun i c hi => by rw [hfree i c hi]; exact h1.lft i c hi, fun i l hl => by
          rw [← htk2] at hl
          exact List.mem_of_mem_take hl, fun i c hi ht => by rw [hfree i c hi]; exact h1.lkd i c hi ht⟩
      have hlen := h3.length_le
      have := UInv.run hn h0n hcl f r (k + 1) (by omega) (by omega) (fun l => by rw [hr, decs_places]; exact hp l) (by rw [hr]; exact SInv.decs hcl _ _ hs) h4
      obtain ⟨P, a, b, c⟩ := this
      exact ⟨P, a, b, h3.trans c⟩
    · rw [run_stop cl (f + 1) s k hgo]
      refine ⟨_, h, ?_, List.prefix_refl _⟩
      by_cases hf2 : s.fails = true
      · exact Or.inl hf2
      · refine Or.inr (List.take_of_length_le ?_)
        have : ¬ (k : Int) < (s.list.length : Int) := fun hlt => hgo ⟨hlt, by simpa using hf2⟩
        omega
/-- WHAT PROPAGATION FINDS: the set, or a clash in it. -/
theorem propS_spec (hn : n ≤ 65536) (h0n : 0 ≤ n) (hcl : ∀ c ∈ cl, clauseOk n c = true) (hst : ∀ l ∈ st, startOk n l = true) :
    ((propS n cl st).fails = true → Clash cl st) ∧ ((propS n cl st).fails = false → ¬ Clash cl st ∧ (∀ l, l ∈ (propS n cl st).list ↔ UP cl st l) ∧ (propS n cl st).list.Nodup) := by
  obtain ⟨f1, f2, f3, f4, f5, f6⟩ := fill_inv h0n cl.length cl (PS.init n) 0 hcl (by omega) (by omega) rfl (by simp [PS.init]; omega) (fun p hp c hc => by
    have := List.eq_of_mem_replicate hp
    subst this
    cases hc)
  obtain ⟨g1, g2⟩ := fill_all (n := n) cl (PS.init n) 0 hcl (by simp [PS.init]; omega)
  have hS0 := fill_SInv h0n hcl
  rw [show ((0 : Nat) : Int) = 0 from rfl] at g1 g2
  obtain ⟨s0, hs0⟩ : ∃ s, s = fillFrom (PS.init n) 0 cl := ⟨_, rfl⟩
  rw [← hs0] at f1 f2 f3 f4 f5 f6 g1 g2 hS0
  have hz : ∀ x : Int, rd s0.value x = 0 := fun x => by
    rw [f4]
    unfold rd
    simp only [PS.init, List.getD_eq_getElem?_getD, List.getElem?_replicate]
    split <;> rfl
  have hP0 : ∀ l : Int, s0.places.getD (idx l) [] = occ l 0 cl := fun l => by
    rw [g1 l]
    simp only [PS.init, List.getD_eq_getElem?_getD, List.getElem?_replicate]
    split <;> simp
  have hnil : s0.list = [] := f5
  have u0 : UInv n cl st (fun _ => []) (fun _ => False) s0 :=
    ⟨hS0.val, fun l h0 _ _ => (by rw [hnil, hz]; simp; omega), fun l _ _ _ => Or.inl (hz _), fun l hl => absurd hl (by rw [hnil]; simp), (by rw [hnil]; simp), fun l hl => absurd hl (by rw [hnil]; simp), fun h => absurd h (by rw [f6]; simp [PS.init]),
      fun i c hi => (by
        rw [g2, free_nil]
        have hlt := (List.getElem?_eq_some_iff.1 hi).1
        rw [rd_get (by omega) (by simp [PS.init]; omega)]
        obtain ⟨h1, h2⟩ := List.getElem?_eq_some_iff.1 hi
        simp [PS.init, h2]), fun i l hl => (by cases hl), fun i c hi ht => ht.elim⟩
  obtain ⟨u1, _, pre1, m1⟩ := u0.adds st s0 (fun x hx => ⟨hst x hx, hx⟩)
  obtain ⟨s1, hs1⟩ : ∃ s, s = st.foldl PS.add s0 := ⟨_, rfl⟩
  have hS1 : ∀ (l : List Int) (s : PS), (∀ x ∈ l, startOk n x = true) → SInv n cl.length s → SInv n cl.length (l.foldl PS.add s) ∧ (l.foldl PS.add s).places = s.places := by
    intro l
    induction l with
    | nil => intro s _ h; exact ⟨h, rfl⟩
    | cons x t ih =>
      intro s hx h
      have hr : x ≠ 0 ∧ -n ≤ x ∧ x ≤ n := by simpa [startOk] using hx x List.mem_cons_self
      have := ih (s.add x) (fun y hy => hx y (List.mem_cons_of_mem _ hy)) (h.add (by omega) (by omega))
      exact ⟨this.1, this.2.trans (add_places _ _)⟩
  obtain ⟨hS1, hp1⟩ := hS1 st s0 hst hS0
  rw [← hs1] at u1 pre1 m1 hS1 hp1
  have hS2 : ∀ (d : Nat) (s : PS) (i : Int), SInv n cl.length s → SInv n cl.length (PS.tryFrom cl d s i) ∧ (PS.tryFrom cl d s i).places = s.places ∧ s.list <+: (PS.tryFrom cl d s i).list := by
    intro d
    induction d with
    | zero => intro s i h; exact ⟨h, rfl, List.prefix_refl _⟩
    | succ d ih =>
      intro s i h
      have := ih (s.tryC cl i) (i + 1) (h.tryC hcl i)
      unfold PS.tryFrom
      exact ⟨this.1, this.2.1.trans (tryC_places _ _ _), (tryC_keeps cl s i).1.trans this.2.2⟩
  obtain ⟨hS2, hp2, pre2⟩ := hS2 cl.length s1 0 hS1
  have u2 := UInv.tryFrom hcl cl.length s1 0 (by omega) (⟨u1.val, u1.v1, u1.v2, u1.lits, u1.nd, u1.up, u1.fl, u1.lft, u1.sub, fun k c _ h => absurd h (Nat.not_lt_zero _)⟩ : UInv n cl st (fun _ => []) (fun k => k < 0) s1)
  rw [show ((0 : Nat) : Int) = 0 from rfl] at u2
  have hprop : propS n cl st = PS.run cl (n + 1).toNat (PS.tryFrom cl cl.length s1 0) 0 := by unfold propS; rw [← hs0, ← hs1]
  obtain ⟨s2, hs2⟩ : ∃ s, s = PS.tryFrom cl cl.length s1 0 := ⟨_, rfl⟩
  rw [← hs2] at u2 hS2 hp2 pre2 hprop
  obtain ⟨P, u3, hor, pre3⟩ := UInv.run hn h0n hcl (n + 1).toNat s2 0 (by omega) (by omega) (fun l => by rw [hp2, hp1]; exact hP0 l) hS2 (by simpa using u2)
  rw [show ((0 : Nat) : Int) = 0 from rfl, ← hprop] at u3 hor pre3
  refine ⟨u3.fl, fun hf => ?_⟩
  have hPl : P = (propS n cl st).list := by
    rcases hor with h | h
    · rw [hf] at h; cases h
    · exact h
  subst hPl
  have hstart : ∀ l ∈ st, l ∈ (propS n cl st).list := fun l hl => pre3.subset (pre2.subset (by
    rcases m1 with h | h
    · exfalso
      have mono : ∀ (s : PS) (i : Int), s.fails = true → (s.tryC cl i).fails = true := fun s i h => by
        unfold PS.tryC PS.look
        split
        · split
          · rfl
          · split
            · split
              · exact add_fails _ _ h
              · exact h
            · exact h
        · exact h
      have mono2 : ∀ (d : Nat) (s : PS) (i : Int), s.fails = true → (PS.tryFrom cl d s i).fails = true := by
        intro d
        induction d with
        | zero => intro s i h; exact h
        | succ d ih => intro s i h; exact ih _ _ (mono _ _ h)
      have h2 : s2.fails = true := by rw [hs2]; exact mono2 _ _ _ h
      have h3 : propS n cl st = s2 := by rw [hprop, run_stop cl _ s2 0 (fun hx => by rw [h2] at hx; cases hx.2)]
      rw [h3, h2] at hf
      cases hf
    · exact h l hl))
  have hclosed : ∀ c ∈ cl, ∀ l ∈ c, (∀ x ∈ c, x ≠ l → -x ∈ (propS n cl st).list) → l ∈ (propS n cl st).list := fun c hc l hl hx => by
    obtain ⟨i, hi, rfl⟩ := List.getElem_of_mem hc
    have hlk := u3.lkd i _ (List.getElem?_eq_getElem hi) hi
    have hsub : ∀ x ∈ free (propS n cl st).list cl[i], x = l := fun x hx1 => by
      obtain ⟨h1, h2⟩ := mem_free.1 hx1
      apply Classical.byContradiction
      intro hne
      exact h2 (hx x h1 hne)
    have hnd : (free (propS n cl st).list cl[i]).Nodup := (clause_nodup (hcl _ hc)).filter _
    match hfr : free (propS n cl st).list cl[i], hnd with
    | [], _ => rw [hlk.1 hfr] at hf; cases hf
    | [y], _ =>
      have hy : y ∈ free (propS n cl st).list cl[i] := by rw [hfr]; simp
      have := hsub y hy
      subst this
      rcases hlk.2 y hfr with h | h | h
      · rw [hf] at h; cases h
      · exact h
      · exact absurd h (mem_free.1 hy).2
    | y :: z :: t, hnd =>
      have hy := hsub y (by rw [hfr]; simp)
      have hz := hsub z (by rw [hfr]; simp)
      subst hy
      rw [hz] at hnd
      simp at hnd
  have hiff : ∀ l, l ∈ (propS n cl st).list ↔ UP cl st l := fun l => ⟨u3.up l, fun h => h.closed hstart hclosed⟩
  refine ⟨?_, hiff, u3.nd⟩
  rintro (⟨l, h1, h2⟩ | h)
  · have a := (hiff l).2 h1
    have b := (hiff (-l)).2 h2
    have r := u3.lits l a
    have e1 := (u3.v1 l r.1 r.2.1 r.2.2).1 a
    have e2 := (u3.v1 (-l) (by omega) (by omega) (by omega)).1 b
    rw [Int.natAbs_neg] at e2
    omega
  · obtain ⟨i, hi, e⟩ := List.getElem_of_mem h
    have := (u3.lkd i _ (List.getElem?_eq_getElem hi) hi).1 (by rw [e]; rfl)
    rw [hf] at this
    cases this
end Go.Proofs.YteaohgebocbehaaGreatDoor.Plain
end
section
/- What Propagate answers, told once. No program. -/
set_option linter.unusedVariables false
namespace Go.Proofs.YteaohgebocbehaaGreatDoor.Plain
open Go.RowKit Go.Proofs.YteaohgebocbehaaGreatDoorW.PrintWords
variable {n : Int} {cl : List (List Int)} {st : List Int}
/-- What Propagate answers: one answer alone. -/
def PropRes (n : Int) (cl : List (List Int)) (st : List Int) (r : List Int × Bool × Int) : Prop :=
  if validC n cl = true ∧ st.all (startOk n) = true then r.2.2 = 0 ∧ (Clash cl st → r.1 = [] ∧ r.2.1 = false) ∧ (¬ Clash cl st → r.2.1 = true ∧ Inc r.1 ∧ ∀ l, l ∈ r.1 ↔ UP cl st l)
  else r = ([], false, 1)
theorem PropRes.unique {r s : List Int × Bool × Int} (h : PropRes n cl st r) (g : PropRes n cl st s) : r = s := by
  unfold PropRes at h g
  by_cases hc : validC n cl = true ∧ st.all (startOk n) = true
  · rw [if_pos hc] at h g
    obtain ⟨r1, r2, r3⟩ := r
    obtain ⟨s1, s2, s3⟩ := s
    obtain ⟨h1, h2, h3⟩ := h
    obtain ⟨g1, g2, g3⟩ := g
    simp only at h1 h2 h3 g1 g2 g3
    by_cases hx : Clash cl st
    · rw [(h2 hx).1, (h2 hx).2, (g2 hx).1, (g2 hx).2, h1, g1]
    · obtain ⟨a1, a2, a3⟩ := h3 hx
      obtain ⟨b1, b2, b3⟩ := g3 hx
      rw [a1, b1, h1, g1, inc_ext r1 s1 a2 b2 (fun x => (a3 x).trans (b3 x).symm)]
  · rw [if_neg hc] at h g
    rw [h, g]
end Go.Proofs.YteaohgebocbehaaGreatDoor.Plain
end
section
/- The reference's IsClause and Valid answer as the plain functions. Conditions: lists shorter than 2^62. -/
set_option linter.unusedVariables false
set_option linter.unusedSimpArgs false
namespace Go.Proofs.YteaohgebocbehaaGreatDoor.Plain
open Go.RowKit Go.Proofs.YteaohgebocbehaaGreatDoor.XA Go.Proofs.YteaohgebocbehaaGreatDoorW.PrintWords
theorem rvar_f {x : Int} (h0 : -9223372036854775807 ≤ x) (h1 : x ≤ 9223372036854775807) : assessorref26_Variable.f x = some (x.natAbs : Int) := by
  unfold assessorref26_Variable.f
  split
  · rw [w64 (by omega) (by omega)]; congr 1; omega
  · congr 1; omega
theorem isClause_ev (n : Int) (hn0 : 0 ≤ n) (hn : n ≤ 4611686018427387904) (c : List Int) (hc : c.length ≤ 4611686018427387904) :
    ∀ (d : Nat) (x : Int) (last : Nat), 0 ≤ x → x ≤ c.length → (c.length : Int) - x = d → (x = 0 → last = 0) → (0 < x → (last : Int) = (rd c (x - 1)).natAbs ∧ (last : Int) ≤ n) → Ev (fun k => assessorref26_IsClause.l0 k c n x) (nOk n last (c.drop x.toNat)) := by
  intro d
  induction d with
  | zero =>
    intro x last h0 h1 hd _ _
    rw [List.drop_eq_nil_of_le (by omega)]
    exact Ev.step (f := fun _ => some true) (fun k => by simp only [assessorref26_IsClause.l0]; rw [if_neg (by omega)]) (Ev.now _)
  | succ d ih =>
    intro x last h0 h1 hd hl0 hl1
    have hlt : x < (c.length : Int) := by omega
    rw [drop_rd h0 hlt]
    simp only [nOk]
    have hw : wrap64 (-n) = -n := w64 (by omega) (by omega)
    have hw2 : wrap64 (x + 1) = x + 1 := w64 (by omega) (by omega)
    have hw3 : 0 < x → wrap64 (x - 1) = x - 1 := fun _ => w64 (by omega) (by omega)
    have bad : ∀ b : Bool, b = false → (∀ k, assessorref26_IsClause.l0 (k + 1) c n x = assessorref26_IsClause.j1 k c n x true) → Ev (fun k => assessorref26_IsClause.l0 k c n x) (b && nOk n (rd c x).natAbs (c.drop (x + 1).toNat)) := fun b hb h => by
      rw [hb, Bool.false_and]
      refine Ev.step (f := fun k => assessorref26_IsClause.j1 k c n x true) h ?_
      exact Ev.step (f := fun _ => some false) (fun k => by simp only [assessorref26_IsClause.j1]; rfl) (Ev.now _)
    by_cases h2 : rd c x = 0
    · exact bad _ (decide_eq_false (by omega)) (fun k => by simp only [assessorref26_IsClause.l0]; rw [if_pos hlt, if_pos h0, if_pos h2])
    by_cases h3 : rd c x < -n
    · exact bad _ (decide_eq_false (by omega)) (fun k => by simp only [assessorref26_IsClause.l0]; rw [if_pos hlt, if_pos h0, if_neg h2, if_pos (by rw [hw]; exact h3)])
    by_cases h4 : rd c x > n
    · exact bad _ (decide_eq_false (by omega)) (fun k => by simp only [assessorref26_IsClause.l0]; rw [if_pos hlt, if_pos h0, if_neg h2, if_neg (by rw [hw]; exact h3), if_pos h4])
    have go : ∀ b : Bool, (b = decide (((rd c x).natAbs : Int) ≤ last)) → (∀ k, assessorref26_IsClause.l0 (k + 1) c n x = assessorref26_IsClause.j1 k c n x b) → Ev (fun k => assessorref26_IsClause.l0 k c n x) (decide (-n ≤ rd c x ∧ rd c x ≤ n ∧ last < (rd c x).natAbs) && nOk n (rd c x).natAbs (c.drop (x + 1).toNat)) := fun b hb h => by
      by_cases h5 : ((rd c x).natAbs : Int) ≤ last
      · refine bad _ (decide_eq_false (by omega)) (fun k => by rw [h k, hb, decide_eq_true h5])
      · rw [decide_eq_true (show -n ≤ rd c x ∧ rd c x ≤ n ∧ last < (rd c x).natAbs by omega), Bool.true_and]
        refine Ev.step (f := fun k => assessorref26_IsClause.j1 k c n x false) (fun k => by rw [h k, hb, decide_eq_false h5]) ?_
        refine Ev.step (f := fun k => assessorref26_IsClause.l0 k c n (x + 1)) (fun k => by simp only [assessorref26_IsClause.j1]; rw [hw2]; rfl) (ih (x + 1) _ (by omega) (by omega) (by omega) (by omega) (fun _ => ⟨by rw [show x + 1 - 1 = x by omega], by omega⟩))
    by_cases h5 : x > 0
    · obtain ⟨e1, e2⟩ := hl1 h5
      refine go _ rfl (fun k => ?_)
      simp only [assessorref26_IsClause.l0]
      rw [if_pos hlt, if_pos h0, if_neg h2, if_neg (by rw [hw]; exact h3), if_neg h4, if_pos h5, rvar_f (by omega) (by omega)]
      simp only [Option.bind_some]
      rw [hw3 h5, if_pos (by omega), if_pos (by omega), rvar_f (by omega) (by omega)]
      simp only [Option.bind_some, e1]
    · have e : last = 0 := hl0 (by omega)
      refine go false (by rw [e]; exact (decide_eq_false (by omega)).symm) (fun k => ?_)
      simp only [assessorref26_IsClause.l0]
      rw [if_pos hlt, if_pos h0, if_neg h2, if_neg (by rw [hw]; exact h3), if_neg h4, if_neg h5]
theorem isClause_f (n : Int) (hn0 : 0 ≤ n) (hn : n ≤ 4611686018427387904) (c : List Int) (hc : c.length ≤ 4611686018427387904) : Ev (fun k => assessorref26_IsClause.f k c n) (clauseOk n c) :=
  isClause_ev n hn0 hn c hc c.length 0 0 (by omega) (by omega) (by omega) (fun _ => rfl) (fun h => absurd h (by omega))
theorem rvalid_ev (n : Int) (hn0 : 0 ≤ n) (hn : n ≤ 65536) (cl : List (List Int)) (hc : ∀ c ∈ cl, c.length ≤ 4611686018427387904) (hl : cl.length ≤ 4611686018427387904) :
    ∀ (d : Nat) (x : Int), 0 ≤ x → x ≤ cl.length → (cl.length : Int) - x = d → Ev (fun k => assessorref26_Valid.l0 k x n cl) ((cl.drop x.toNat).all (clauseOk n)) := by
  intro d
  induction d with
  | zero =>
    intro x h0 h1 hd
    rw [List.drop_eq_nil_of_le (by omega)]
    exact Ev.step (f := fun _ => some true) (fun k => by simp only [assessorref26_Valid.l0]; rw [if_neg (by omega)]) (Ev.now _)
  | succ d ih =>
    intro x h0 h1 hd
    have hlt : x < (cl.length : Int) := by omega
    have hw2 : wrap64 (x + 1) = x + 1 := w64 (by omega) (by omega)
    rw [drop_rdL h0 hlt, List.all_cons]
    have hm : rd_L1 cl x ∈ cl := by rw [rdL_get h0 hlt]; exact List.getElem_mem _
    have hf := isClause_f n hn0 (by omega) (rd_L1 cl x) (hc _ hm)
    refine Ev.step (f := fun k => (assessorref26_IsClause.f k (rd_L1 cl x) n).bind fun t => if t = true then assessorref26_Valid.l0 k (wrap64 (x + 1)) n cl else some false) (fun k => by simp only [assessorref26_Valid.l0]; rw [if_pos hlt, if_pos h0]) (Ev.bind hf ?_)
    cases hb : clauseOk n (rd_L1 cl x) with
    | false => simpa using Ev.now false
    | true =>
      rw [hw2]
      simpa using ih (x + 1) (by omega) (by omega) (by omega)
theorem rvalid_f (n : Int) (cl : List (List Int)) (hc : ∀ c ∈ cl, c.length ≤ 4611686018427387904) (hl : cl.length ≤ 4611686018427387904) : Ev (fun k => assessorref26_Valid.f k n cl) (validC n cl) := by
  unfold validC
  by_cases h1 : n < 0
  · rw [decide_eq_false (by omega), Bool.false_and]
    refine Ev.congr (f := fun k => assessorref26_Valid.j0 k true n cl) (fun k => by unfold assessorref26_Valid.f; rw [if_pos h1]) ?_
    exact Ev.step (f := fun _ => some false) (fun k => by simp only [assessorref26_Valid.j0]; rfl) (Ev.now _)
  · by_cases h2 : n > 65536
    · rw [decide_eq_false (by omega), Bool.false_and]
      refine Ev.congr (f := fun k => assessorref26_Valid.j0 k true n cl) (fun k => by unfold assessorref26_Valid.f; rw [if_neg h1, if_pos h2]) ?_
      exact Ev.step (f := fun _ => some false) (fun k => by simp only [assessorref26_Valid.j0]; rfl) (Ev.now _)
    · by_cases h3 : (cl.length : Int) > 262144
      · rw [decide_eq_false (by omega), Bool.false_and]
        refine Ev.congr (f := fun k => assessorref26_Valid.j0 k true n cl) (fun k => by unfold assessorref26_Valid.f; rw [if_neg h1, if_neg h2, decide_eq_true h3]) ?_
        exact Ev.step (f := fun _ => some false) (fun k => by simp only [assessorref26_Valid.j0]; rfl) (Ev.now _)
      · rw [decide_eq_true (by omega), Bool.true_and]
        refine Ev.congr (f := fun k => assessorref26_Valid.j0 k false n cl) (fun k => by unfold assessorref26_Valid.f; rw [if_neg h1, if_neg h2, decide_eq_false h3]) ?_
        refine Ev.step (f := fun k => assessorref26_Valid.l0 k 0 n cl) (fun k => by simp only [assessorref26_Valid.j0]; rfl) ?_
        exact rvalid_ev n (by omega) (by omega) cl hc hl cl.length 0 (by omega) (by omega) (by omega)
end Go.Proofs.YteaohgebocbehaaGreatDoor.Plain
end
section
/- The reference's closure under unit propagation finds the same set, or a clash; so the two Propagates agree. Conditions: a valid formula, literals of its variables. -/
set_option linter.unusedVariables false
set_option linter.unusedSimpArgs false
namespace Go.Proofs.YteaohgebocbehaaGreatDoor.Plain
open Go.RowKit Go.Proofs.YteaohgebocbehaaGreatDoor.XA Go.Proofs.YteaohgebocbehaaGreatDoorW.PrintWords
/-- What the reference's array says is what follows. -/
structure Good (n : Int) (cl : List (List Int)) (st S : List Int) : Prop where
  len : (S.length : Int) = n + 1
  val : ∀ l : Int, l ≠ 0 → -n ≤ l → l ≤ n → rd S (l.natAbs : Int) = 0 ∨ rd S (l.natAbs : Int) = l ∨ rd S (l.natAbs : Int) = -l
  up : ∀ l : Int, l ≠ 0 → -n ≤ l → l ≤ n → rd S (l.natAbs : Int) = l → UP cl st l
def Closed (S c : List Int) : Prop := c ≠ [] ∧ ∀ l ∈ c, (∀ x ∈ c, x ≠ l → rd S (x.natAbs : Int) = -x) → rd S (l.natAbs : Int) = l
/-- What the closure answers. -/
def CloSpec (n : Int) (cl : List (List Int)) (st : List Int) (r : List Int × Bool) : Prop :=
  (r.2 = false → Clash cl st) ∧ (r.2 = true → Good n cl st r.1 ∧ (∀ l ∈ st, rd r.1 (l.natAbs : Int) = l) ∧ ∀ c ∈ cl, Closed r.1 c)
variable {n : Int} {cl : List (List Int)} {st : List Int}
theorem Good.set {S : List Int} (h : Good n cl st S) {l : Int} (h0 : l ≠ 0) (h1 : -n ≤ l) (h2 : l ≤ n) (hu : UP cl st l) : Good n cl st (S.set l.natAbs l) := by
  have hlen := h.len
  have hj : l.natAbs < S.length := by omega
  refine ⟨by simpa using h.len, fun x x0 x1 x2 => ?_, fun x x0 x1 x2 hx => ?_⟩
  · rw [rd_set _ hj]
    split
    · omega
    · exact h.val x x0 x1 x2
  · rw [rd_set _ hj] at hx
    split at hx
    · rw [← hx]; exact hu
    · exact h.up x x0 x1 x2 hx
def opn (S c : List Int) : List Int := c.filter fun x => decide (rd S (x.natAbs : Int) = 0)
def tru (S c : List Int) : Bool := c.any fun x => decide (rd S (x.natAbs : Int) ≠ 0) && decide (rd S (x.natAbs : Int) = x)
theorem closure_l3 (S : List Int) (hS : (S.length : Int) = n + 1) (hn : n ≤ 65536) (h0n : 0 ≤ n) (b : Bool) (x9 : Int) (c : List Int) (hc : clauseOk n c = true) (R : List Int × Bool)
    (hR : Ev (fun k => assessorref26_Closure.j4 k S b x9 ((opn S c).length : Int) ((opn S c).getLastD 0) (tru S c || decide (((opn S c).length : Int) > 1)) n cl) R) :
    ∀ (d : Nat) (x o la : Int) (t : Bool), 0 ≤ x → x ≤ c.length → (c.length : Int) - x = d → 0 ≤ o → o ≤ x → (o + ((opn S (c.drop x.toNat)).length : Int) = (opn S c).length) → ((opn S (c.drop x.toNat)).getLastD la = (opn S c).getLastD 0) → ((t || tru S (c.drop x.toNat)) = tru S c) →
      Ev (fun k => assessorref26_Closure.l3 k S b x9 c o la t x n cl) R := by
  have hlen := clauseOk_length h0n hc
  have hck := ((clauseOk_iff n c).1 hc).2
  intro d
  induction d with
  | zero =>
    intro x o la t h0 h1 hd ho hox e1 e2 e3
    rw [List.drop_eq_nil_of_le (by omega)] at e1 e2 e3
    simp only [opn, tru, List.filter_nil, List.length_nil, List.any_nil, Bool.or_false, List.getLastD_nil] at e1 e2 e3
    have e1' : o = ((opn S c).length : Int) := by unfold opn; omega
    have e2' : la = (opn S c).getLastD 0 := e2
    have e3' : t = tru S c := e3
    refine Ev.step (f := fun k => assessorref26_Closure.j4 k S b x9 ((opn S c).length : Int) ((opn S c).getLastD 0) (tru S c || decide (((opn S c).length : Int) > 1)) n cl) (fun k => ?_) hR
    simp only [assessorref26_Closure.l3]
    rw [if_neg (by omega), ← e1', ← e2', ← e3']
    cases t <;> simp
  | succ d ih =>
    intro x o la t h0 h1 hd ho hox e1 e2 e3
    have hlt : x < (c.length : Int) := by omega
    have hw2 : wrap64 (x + 1) = x + 1 := w64 (by omega) (by omega)
    have hw3 : wrap64 (o + 1) = o + 1 := w64 (by omega) (by omega)
    rw [drop_rd h0 hlt] at e1 e2 e3
    have hr := hck (rd c x) (by rw [rd_get h0 hlt]; exact List.getElem_mem _)
    have hv := rvar_f (x := rd c x) (by omega) (by omega)
    have hb1 : ((rd c x).natAbs : Int) < S.length := by omega
    by_cases hz : rd S ((rd c x).natAbs : Int) = 0
    · refine Ev.step (f := fun k => assessorref26_Closure.l3 k S b x9 c (o + 1) (rd c x) t (x + 1) n cl) (fun k => ?_) (ih (x + 1) (o + 1) (rd c x) t (by omega) (by omega) (by omega) (by omega) (by omega) ?_ ?_ ?_)
      · simp only [assessorref26_Closure.l3]
        rw [if_pos hlt, if_pos h0, hv]
        simp only [Option.bind_some]
        rw [if_pos (by omega), if_pos hb1, if_pos hz, hw3, hw2]
      · rw [← e1]; simp only [opn, List.filter_cons, hz, decide_true, if_true, List.length_cons]; omega
      · rw [← e2]; simp only [opn, List.filter_cons, hz, decide_true, if_true, List.getLastD_cons]
      · rw [← e3]; simp only [tru, List.any_cons, hz, ne_eq, not_true_eq_false, decide_false, Bool.false_and, Bool.false_or]
    · by_cases ht : rd S ((rd c x).natAbs : Int) = rd c x
      · refine Ev.step (f := fun k => assessorref26_Closure.l3 k S b x9 c o la true (x + 1) n cl) (fun k => ?_) (ih (x + 1) o la true (by omega) (by omega) (by omega) (by omega) (by omega) ?_ ?_ ?_)
        · simp only [assessorref26_Closure.l3]
          rw [if_pos hlt, if_pos h0, hv]
          simp only [Option.bind_some]
          rw [if_pos (by omega), if_pos hb1, if_neg hz, if_pos ht, hw2]
        · rw [← e1]; simp only [opn, List.filter_cons, hz, decide_false, Bool.false_eq_true, if_false]
        · rw [← e2]; simp only [opn, List.filter_cons, hz, decide_false, Bool.false_eq_true, if_false]
        · rw [← e3]; simp only [tru, List.any_cons, ht, decide_true, Bool.and_true]; rw [decide_eq_true (show rd c x ≠ 0 from hr.1)]; simp
      · refine Ev.step (f := fun k => assessorref26_Closure.l3 k S b x9 c o la t (x + 1) n cl) (fun k => ?_) (ih (x + 1) o la t (by omega) (by omega) (by omega) (by omega) (by omega) ?_ ?_ ?_)
        · simp only [assessorref26_Closure.l3]
          rw [if_pos hlt, if_pos h0, hv]
          simp only [Option.bind_some]
          rw [if_pos (by omega), if_pos hb1, if_neg hz, if_neg ht, hw2]
        · rw [← e1]; simp only [opn, List.filter_cons, hz, decide_false, Bool.false_eq_true, if_false]
        · rw [← e2]; simp only [opn, List.filter_cons, hz, decide_false, Bool.false_eq_true, if_false]
        · rw [← e3]; simp only [tru, List.any_cons, ht, decide_false, Bool.and_false, Bool.false_or]
theorem rset_count {S : List Int} {j : Nat} {u : Int} (hj : j < S.length) (hz : rd S (j : Int) = 0) (hu : u ≠ 0) : (S.set j u).count 0 + 1 = S.count 0 := by
  have hz' : S[j] = 0 := by
    rw [rd_get (by omega) (by omega)] at hz
    simpa using hz
  have hpos : 0 < S.count 0 := List.count_pos_iff.2 (by rw [← hz']; exact List.getElem_mem hj)
  rw [List.count_set hj]
  have : (u == 0) = false := by simpa using hu
  simp [hz', this]
  omega
theorem closure_pass (hn : n ≤ 65536) (h0n : 0 ≤ n) (hcl : ∀ c ∈ cl, clauseOk n c = true) (hlen : cl.length ≤ 4611686018427387904) (z : Nat)
    (IH : ∀ S, S.count 0 < z → Good n cl st S → (∀ l ∈ st, rd S (l.natAbs : Int) = l) → ∃ r, Ev (fun k => assessorref26_Closure.l1 k S true n cl) r ∧ CloSpec n cl st r) :
    ∀ (d : Nat) (x9 : Int) (S : List Int) (b : Bool), 0 ≤ x9 → x9 ≤ cl.length → (cl.length : Int) - x9 = d → Good n cl st S → (∀ l ∈ st, l ≠ 0 ∧ rd S (l.natAbs : Int) = l) → (b = true → S.count 0 < z) → (b = false → S.count 0 ≤ z ∧ ∀ i : Nat, (i : Int) < x9 → ∀ c, cl[i]? = some c → Closed S c) →
      ∃ r, Ev (fun k => assessorref26_Closure.l2 k S b x9 n cl) r ∧ CloSpec n cl st r := by
  intro d
  induction d with
  | zero =>
    intro x9 S b h0 h1 hd hg hs hb1 hb2
    cases b with
    | true =>
      obtain ⟨r, hr, hsp⟩ := IH S (hb1 rfl) hg (fun l hl => (hs l hl).2)
      exact ⟨r, Ev.step (fun k => by simp only [assessorref26_Closure.l2]; rw [if_neg (by omega)]) hr, hsp⟩
    | false =>
      refine ⟨(S, true), Ev.step (f := fun k => assessorref26_Closure.l1 k S false n cl) (fun k => by simp only [assessorref26_Closure.l2]; rw [if_neg (by omega)]) (Ev.step (f := fun _ => some (S, true)) (fun k => by simp only [assessorref26_Closure.l1]; rfl) (Ev.now _)), fun h => (by cases h), fun _ => ⟨hg, fun l hl => (hs l hl).2, fun c hc => ?_⟩⟩
      obtain ⟨i, hi, rfl⟩ := List.getElem_of_mem hc
      exact (hb2 rfl).2 i (by omega) _ (List.getElem?_eq_getElem hi)
  | succ d ih =>
    intro x9 S b h0 h1 hd hg hs hb1 hb2
    have hlt : x9 < (cl.length : Int) := by omega
    have hw : wrap64 (x9 + 1) = x9 + 1 := w64 (by omega) (by omega)
    obtain ⟨c, hc⟩ : ∃ c, c = rd_L1 cl x9 := ⟨_, rfl⟩
    have hget : cl[x9.toNat]? = some c := by rw [hc, rdL_get h0 hlt]; exact List.getElem?_eq_getElem _
    have hmem : c ∈ cl := List.mem_of_getElem? hget
    have hck := hcl c hmem
    have hr := ((clauseOk_iff n c).1 hck).2
    -- from the end of the clause
    suffices hj : ∃ r, Ev (fun k => assessorref26_Closure.j4 k S b x9 ((opn S c).length : Int) ((opn S c).getLastD 0) (tru S c || decide (((opn S c).length : Int) > 1)) n cl) r ∧ CloSpec n cl st r by
      obtain ⟨r, hj, hsp⟩ := hj
      have h3 := closure_l3 S hg.len hn h0n b x9 c hck r hj c.length 0 0 0 false (by omega) (by omega) (by omega) (by omega) (by omega) (by simp) (by simp) (by simp)
      exact ⟨r, Ev.step (fun k => by simp only [assessorref26_Closure.l2]; rw [if_pos hlt, if_pos h0, ← hc]) h3, hsp⟩
    by_cases hdone : (tru S c || decide (((opn S c).length : Int) > 1)) = true
    · have hclosed : Closed S c := ⟨fun e => by rw [e] at hdone; simp [tru, opn] at hdone, fun l hl hx => by
        simp only [Bool.or_eq_true, decide_eq_true_eq] at hdone
        rcases hdone with h | h
        · unfold tru at h
          obtain ⟨x, hxm, hxe⟩ := List.any_eq_true.1 h
          simp only [Bool.and_eq_true, decide_eq_true_eq] at hxe
          by_cases e : x = l
          · rw [← e]; exact hxe.2
          · have := hx x hxm e
            omega
        · have hnd : (opn S c).Nodup := (clause_nodup hck).filter _
          exfalso
          match ho : opn S c, hnd with
          | [], _ => rw [ho] at h; simp at h
          | [_], _ => rw [ho] at h; simp at h
          | y :: y' :: t, hnd =>
            have hy : y ∈ opn S c := by rw [ho]; simp
            have hy' : y' ∈ opn S c := by rw [ho]; simp
            have hne : y ≠ y' := fun e => by rw [e] at hnd; simp at hnd
            simp only [opn, List.mem_filter, decide_eq_true_eq] at hy hy'
            by_cases e : y = l
            · have := hx y' hy'.1 (fun e2 => hne (e.trans e2.symm))
              have := hr y' hy'.1
              omega
            · have := hx y hy.1 e
              have := hr y hy.1
              omega⟩
      obtain ⟨r, hr1, hsp⟩ := ih (x9 + 1) S b (by omega) (by omega) (by omega) hg hs hb1 (fun e => ⟨(hb2 e).1, fun i hi d hd' => by
        by_cases e2 : (i : Int) < x9
        · exact (hb2 e).2 i e2 d hd'
        · have : i = x9.toNat := by omega
          subst this
          obtain rfl := Option.some.inj (hget.symm.trans hd')
          exact hclosed⟩)
      exact ⟨r, Ev.step (fun k => by simp only [assessorref26_Closure.j4]; rw [if_pos hdone, hw]) hr1, hsp⟩
    · have hdn : ¬ ((tru S c || decide (((opn S c).length : Int) > 1)) = true) := hdone
      simp only [Bool.or_eq_true, decide_eq_true_eq, not_or] at hdone
      obtain ⟨ht, hle⟩ := hdone
      have hexc : ∀ x ∈ c, x ∉ opn S c → rd S (x.natAbs : Int) = -x := fun x hx hno => by
        have hz : rd S (x.natAbs : Int) ≠ 0 := fun e => hno (by simp only [opn, List.mem_filter, decide_eq_true_eq]; exact ⟨hx, e⟩)
        have hxr := hr x hx
        rcases hg.val x hxr.1 hxr.2.1 hxr.2.2 with e | e | e
        · exact absurd e hz
        · exfalso
          apply ht
          unfold tru
          exact List.any_eq_true.2 ⟨x, hx, by simp only [Bool.and_eq_true, decide_eq_true_eq]; exact ⟨hz, e⟩⟩
        · exact e
      have hupn : ∀ x ∈ c, x ∉ opn S c → UP cl st (-x) := fun x hx hno => by
        have hxr := hr x hx
        have := hexc x hx hno
        exact hg.up (-x) (by omega) (by omega) (by omega) (by rw [Int.natAbs_neg]; exact this)
      match ho : opn S c with
      | [] =>
        refine ⟨(S, false), Ev.step (f := fun _ => some (S, false)) (fun k => by simp only [assessorref26_Closure.j4]; rw [← ho, if_neg hdn, if_pos (by rw [ho]; rfl)]) (Ev.now _), fun _ => clash_of_excluded hmem fun x hx => hupn x hx (by rw [ho]; simp), fun h => by cases h⟩
      | [y] =>
        have hyo : y ∈ opn S c := by rw [ho]; simp
        simp only [opn, List.mem_filter, decide_eq_true_eq] at hyo
        have hyr := hr y hyo.1
        have hlenS := hg.len
        have hj : y.natAbs < S.length := by omega
        have hcount := rset_count hj hyo.2 hyr.1
        have hup : UP cl st y := UP.unit hmem hyo.1 fun x hx hne => hupn x hx (by rw [ho]; simpa using hne)
        have hle2 : S.count 0 ≤ z := by
          cases b with
          | true => exact Nat.le_of_lt (hb1 rfl)
          | false => exact (hb2 rfl).1
        obtain ⟨r, hr1, hsp⟩ := ih (x9 + 1) (S.set y.natAbs y) true (by omega) (by omega) (by omega) (hg.set hyr.1 hyr.2.1 hyr.2.2 hup) (fun l hl => ⟨(hs l hl).1, by
          rw [rd_set _ hj]
          split
          · rename_i e
            have := (hs l hl).2
            rw [← e, hyo.2] at this
            exact absurd this.symm (hs l hl).1
          · exact (hs l hl).2⟩) (fun _ => by omega) (fun e => by cases e)
        refine ⟨r, Ev.step (f := fun k => assessorref26_Closure.l2 k (S.set y.natAbs y) true (x9 + 1) n cl) (fun k => ?_) hr1, hsp⟩
        simp only [assessorref26_Closure.j4]
        rw [← ho, if_neg hdn, if_neg (by rw [ho]; simp), ho]
        simp only [List.getLastD_cons, List.getLastD_nil]
        rw [rvar_f (by omega) (by omega)]
        simp only [Option.bind_some]
        rw [if_pos (by omega), if_pos (by omega), hw, Int.toNat_natCast]
      | y :: y' :: t => rw [ho] at hle; simp at hle; omega
theorem closure_l1 (hn : n ≤ 65536) (h0n : 0 ≤ n) (hcl : ∀ c ∈ cl, clauseOk n c = true) (hlen : cl.length ≤ 4611686018427387904) (hst : ∀ l ∈ st, startOk n l = true) : ∀ (z : Nat) (S : List Int), S.count 0 < z → Good n cl st S → (∀ l ∈ st, rd S (l.natAbs : Int) = l) → ∃ r, Ev (fun k => assessorref26_Closure.l1 k S true n cl) r ∧ CloSpec n cl st r
  | 0, S, h, _, _ => absurd h (Nat.not_lt_zero _)
  | z + 1, S, h, hg, hs => by
    have h0 : ∀ l ∈ st, l ≠ 0 := fun l hl => by have := hst l hl; simp [startOk] at this; exact this.1
    obtain ⟨r, hr, hsp⟩ := closure_pass hn h0n hcl hlen z (fun S' h' hg' hs' => closure_l1 hn h0n hcl hlen hst z S' h' hg' hs') cl.length 0 S false (by omega) (by omega) (by omega) hg (fun l hl => ⟨h0 l hl, hs l hl⟩) (fun e => by cases e) (fun _ => ⟨by omega, fun i hi => by omega⟩)
    exact ⟨r, Ev.step (f := fun k => assessorref26_Closure.l2 k S false 0 n cl) (fun k => by simp only [assessorref26_Closure.l1]; rfl) hr, hsp⟩
theorem closure_l0 (hn : n ≤ 65536) (h0n : 0 ≤ n) (hcl : ∀ c ∈ cl, clauseOk n c = true) (hlen : cl.length ≤ 4611686018427387904) (hst : ∀ l ∈ st, startOk n l = true) (hsl : st.length ≤ 4611686018427387904) :
    ∀ (d : Nat) (x : Int) (S : List Int), 0 ≤ x → x ≤ st.length → (st.length : Int) - x = d → Good n cl st S → (∀ i : Nat, (i : Int) < x → ∀ l, st[i]? = some l → rd S (l.natAbs : Int) = l) → ∃ r, Ev (fun k => assessorref26_Closure.l0 k st S x n cl) r ∧ CloSpec n cl st r := by
  intro d
  induction d with
  | zero =>
    intro x S h0 h1 hd hg hs
    obtain ⟨r, hr, hsp⟩ := closure_l1 hn h0n hcl hlen hst (S.count 0 + 1) S (by omega) hg (fun l hl => by
      obtain ⟨i, hi, rfl⟩ := List.getElem_of_mem hl
      exact hs i (by omega) _ (List.getElem?_eq_getElem hi))
    exact ⟨r, Ev.step (f := fun k => assessorref26_Closure.l1 k S true n cl) (fun k => by simp only [assessorref26_Closure.l0]; rw [if_neg (by omega)]) hr, hsp⟩
  | succ d ih =>
    intro x S h0 h1 hd hg hs
    have hlt : x < (st.length : Int) := by omega
    have hw : wrap64 (x + 1) = x + 1 := w64 (by omega) (by omega)
    obtain ⟨l, hl⟩ : ∃ l, l = rd st x := ⟨_, rfl⟩
    have hget : st[x.toNat]? = some l := by rw [hl, rd_get h0 hlt]; exact List.getElem?_eq_getElem _
    have hm : l ∈ st := List.mem_of_getElem? hget
    have hr : l ≠ 0 ∧ -n ≤ l ∧ l ≤ n := by simpa [startOk] using hst l hm
    have hv := rvar_f (x := l) (by omega) (by omega)
    have hlenS := hg.len
    have hj : l.natAbs < S.length := by omega
    have hwn : wrap64 (-l) = -l := w64 (by omega) (by omega)
    by_cases hc : rd S (l.natAbs : Int) = -l
    · refine ⟨(S, false), Ev.step (f := fun _ => some (S, false)) (fun k => ?_) (Ev.now _), fun _ => Or.inl ⟨l, UP.start hm, hg.up (-l) (by omega) (by omega) (by omega) (by rw [Int.natAbs_neg]; exact hc)⟩, fun h => by cases h⟩
      simp only [assessorref26_Closure.l0]
      rw [if_pos hlt, if_pos h0, ← hl, hv]
      simp only [Option.bind_some]
      rw [if_pos (by omega), if_pos (by omega), hwn, if_pos hc]
    · obtain ⟨r, hr1, hsp⟩ := ih (x + 1) (S.set l.natAbs l) (by omega) (by omega) (by omega) (hg.set hr.1 hr.2.1 hr.2.2 (UP.start hm)) (fun i hi l' hl' => by
        rw [rd_set _ hj]
        by_cases e2 : (i : Int) < x
        · have h3 := hs i e2 l' hl'
          have hr' : l' ≠ 0 ∧ -n ≤ l' ∧ l' ≤ n := by simpa [startOk] using hst l' (List.mem_of_getElem? hl')
          split
          · rename_i e
            rw [← e] at h3
            omega
          · exact h3
        · have : i = x.toNat := by omega
          subst this
          obtain rfl := Option.some.inj (hget.symm.trans hl')
          rw [if_pos rfl])
      refine ⟨r, Ev.step (f := fun k => assessorref26_Closure.l0 k st (S.set l.natAbs l) (x + 1) n cl) (fun k => ?_) hr1, hsp⟩
      simp only [assessorref26_Closure.l0]
      rw [if_pos hlt, if_pos h0, ← hl, hv]
      simp only [Option.bind_some]
      rw [if_pos (by omega), if_pos (by omega), hwn, if_neg hc, if_pos (by omega), if_pos (by omega), hw, Int.toNat_natCast]
theorem closure_f (hn : n ≤ 65536) (h0n : 0 ≤ n) (hcl : ∀ c ∈ cl, clauseOk n c = true) (hlen : cl.length ≤ 4611686018427387904) (hst : ∀ l ∈ st, startOk n l = true) (hsl : st.length ≤ 4611686018427387904) :
    ∃ r, Ev (fun k => assessorref26_Closure.f k n cl st) r ∧ CloSpec n cl st r := by
  have hw : wrap64 (n + 1) = n + 1 := w64 (by omega) (by omega)
  obtain ⟨r, hr, hsp⟩ := closure_l0 hn h0n hcl hlen hst hsl st.length 0 (List.replicate (n + 1).toNat 0) (by omega) (by omega) (by omega) ⟨by simp; omega, fun l _ _ _ => Or.inl (by
    unfold rd
    simp only [List.getD_eq_getElem?_getD, List.getElem?_replicate]
    split <;> rfl), fun l h0 h1 h2 h => absurd h (by
    unfold rd
    simp only [List.getD_eq_getElem?_getD, List.getElem?_replicate]
    split <;> simp <;> omega)⟩ (fun i hi => by omega)
  exact ⟨r, Ev.congr (fun k => by unfold assessorref26_Closure.f; rw [hw, if_pos (by omega), if_pos (by omega)]) hr, hsp⟩
theorem propagate_l1 {S : List Int} (hn : n ≤ 65536) (h0n : 0 ≤ n) (hg : Good n cl st S) :
    ∀ (d : Nat) (v : Int) (out : List Int), 1 ≤ v → v ≤ n + 1 → n + 1 - v = d → (out.length : Int) < v → Inc out → (∀ l ∈ out, (l.natAbs : Int) < v) → (∀ l : Int, l ≠ 0 → (l.natAbs : Int) < v → (l ∈ out ↔ rd S (l.natAbs : Int) = l)) → (∀ l ∈ out, l ≠ 0) →
      ∃ r, Ev (fun k => assessorref26_Propagate.l1 k S out v n cl) (r, true, 0) ∧ Inc r ∧ (∀ l ∈ r, l ≠ 0 ∧ (l.natAbs : Int) ≤ n) ∧ (∀ l : Int, l ≠ 0 → -n ≤ l → l ≤ n → (l ∈ r ↔ rd S (l.natAbs : Int) = l)) := by
  intro d
  induction d with
  | zero =>
    intro v out h0 h1 hd ho hi hlt hmem hnz
    exact ⟨out, Ev.step (f := fun _ => some (out, true, 0)) (fun k => by simp only [assessorref26_Propagate.l1]; rw [if_neg (by omega)]) (Ev.now _), hi, fun l hl => ⟨hnz l hl, by have := hlt l hl; omega⟩, fun l l0 l1 l2 => hmem l l0 (by omega)⟩
  | succ d ih =>
    intro v out h0 h1 hd ho hi hlt hmem hnz
    have hw : wrap64 (v + 1) = v + 1 := w64 (by omega) (by omega)
    have hlen := hg.len
    have hnat : ((v.natAbs : Nat) : Int) = v := by omega
    have hv := hg.val v (by omega) (by omega) (by omega)
    rw [hnat] at hv
    by_cases hz : rd S v = 0
    · obtain ⟨r, hr, h2⟩ := ih (v + 1) out (by omega) (by omega) (by omega) (by omega) hi (fun l hl => by have := hlt l hl; omega) (fun l l0 l1 => by
        by_cases e : (l.natAbs : Int) < v
        · exact hmem l l0 e
        · have e2 : (l.natAbs : Int) = v := by omega
          rw [e2, hz]
          constructor
          · intro hm; exact absurd (hlt l hm) e
          · intro hm; exact absurd hm.symm l0) hnz
      exact ⟨r, Ev.step (f := fun k => assessorref26_Propagate.l1 k S out (v + 1) n cl) (fun k => by simp only [assessorref26_Propagate.l1]; rw [if_pos (by omega), if_pos (by omega), if_pos (by omega), if_pos hz, hw]) hr, h2⟩
    · have hab : ((rd S v).natAbs : Int) = v := by omega
      obtain ⟨r, hr, h2⟩ := ih (v + 1) (out ++ [rd S v]) (by omega) (by omega) (by omega) (by simp; omega) (by
        unfold Inc at hi ⊢
        rw [List.pairwise_append]
        refine ⟨hi, by simp, fun a ha b hb => ?_⟩
        rw [List.mem_singleton.1 hb]
        have := hlt a ha
        omega) (fun l hl => by
        rcases List.mem_append.1 hl with hl | hl
        · have := hlt l hl; omega
        · rw [List.mem_singleton.1 hl]; omega) (fun l l0 l1 => by
        by_cases e : (l.natAbs : Int) < v
        · rw [← hmem l l0 e]
          simp only [List.mem_append, List.mem_singleton]
          constructor
          · rintro (h | h)
            · exact h
            · rw [h] at e; omega
          · exact Or.inl
        · have e2 : (l.natAbs : Int) = v := by omega
          rw [e2]
          simp only [List.mem_append, List.mem_singleton]
          constructor
          · rintro (h | h)
            · exact absurd (hlt l h) e
            · exact h.symm
          · intro h; exact Or.inr h.symm) (fun l hl => by
        rcases List.mem_append.1 hl with hl | hl
        · exact hnz l hl
        · rw [List.mem_singleton.1 hl]; exact hz)
      exact ⟨r, Ev.step (f := fun k => assessorref26_Propagate.l1 k S (out ++ [rd S v]) (v + 1) n cl) (fun k => by simp only [assessorref26_Propagate.l1]; rw [if_pos (by omega), if_pos (by omega), if_pos (by omega), if_neg hz, if_pos (by omega), hw]) hr, h2⟩
theorem propagate_l0 (hn : n ≤ 65536) (h0n : 0 ≤ n) (hlen : cl.length ≤ 4611686018427387904) (hsl : st.length ≤ 4611686018427387904) (R : List Int × Bool × Int) (hR : st.all (startOk n) = true → Ev (fun k => (assessorref26_Closure.f k n cl st).bind fun bt307 => if bt307.2 = true then assessorref26_Propagate.l1 k bt307.1 ([] : List Int) 1 n cl else some (([] : List Int), false, 0)) R) (hF : st.all (startOk n) = false → R = ([], false, 1)) :
    ∀ (d : Nat) (x : Int), 0 ≤ x → x ≤ st.length → (st.length : Int) - x = d → (st.take x.toNat).all (startOk n) = true → Ev (fun k => assessorref26_Propagate.l0 k st x n cl) R := by
  intro d
  induction d with
  | zero =>
    intro x h0 h1 hd hall
    rw [List.take_of_length_le (by omega)] at hall
    exact Ev.step (fun k => by simp only [assessorref26_Propagate.l0]; rw [if_neg (by omega)]) (hR hall)
  | succ d ih =>
    intro x h0 h1 hd hall
    have hlt : x < (st.length : Int) := by omega
    have hw : wrap64 (x + 1) = x + 1 := w64 (by omega) (by omega)
    have hsl1 : (st.take (x + 1).toNat).drop x.toNat = [rd st x] := by
      rw [show (x + 1).toNat = x.toNat + 1 by omega, List.take_add_one, List.drop_append_of_le_length (by rw [List.length_take]; omega), List.drop_eq_nil_of_le (by rw [List.length_take]; omega), List.getElem?_eq_getElem (by omega), rd_get h0 hlt]
      rfl
    have htk : (st.take (x + 1).toNat).all (startOk n) = ((st.take x.toNat).all (startOk n) && startOk n (rd st x)) := by
      rw [show (x + 1).toNat = x.toNat + 1 by omega, List.take_add_one, List.getElem?_eq_getElem (by omega), rd_get h0 hlt, List.all_append]
      simp only [Option.toList, List.all_cons, List.all_nil, Bool.and_true]
    have hone : clauseOk n [rd st x] = startOk n (rd st x) := by
      unfold clauseOk startOk
      simp only [nOk, Bool.and_true]
      exact decide_eq_decide.2 (by omega)
    have hf := isClause_f n h0n (by omega) [rd st x] (by simp)
    rw [hone] at hf
    refine Ev.step (f := fun k => (assessorref26_IsClause.f k [rd st x] n).bind fun t => if t = true then assessorref26_Propagate.l0 k st (x + 1) n cl else some (([] : List Int), false, 1)) (fun k => by simp only [assessorref26_Propagate.l0]; rw [if_pos hlt, if_pos h0, hw, if_pos (by omega), if_pos (by omega), hsl1]) (Ev.bind hf ?_)
    cases hb : startOk n (rd st x) with
    | true => simpa using ih (x + 1) (by omega) (by omega) (by omega) (by rw [htk, hall, hb]; rfl)
    | false =>
      have : st.all (startOk n) = false := by
        rw [List.all_eq_false]
        exact ⟨rd st x, by rw [rd_get h0 hlt]; exact List.getElem_mem _, by rw [hb]; simp⟩
      rw [hF this]
      simpa using Ev.now (([] : List Int), false, (1 : Int))
theorem rprop_f (n : Int) (cl : List (List Int)) (st : List Int) (hc : ∀ c ∈ cl, c.length ≤ 4611686018427387904) (hl : cl.length ≤ 4611686018427387904) (hsl : st.length ≤ 4611686018427387904) :
    ∃ r, Ev (fun k => assessorref26_Propagate.f k n cl st) r ∧ PropRes n cl st r := by
  have hv := rvalid_f n cl hc hl
  suffices h : ∃ r, Ev (fun k => if validC n cl = true then assessorref26_Propagate.l0 k st 0 n cl else some (([] : List Int), false, 1)) r ∧ PropRes n cl st r by
    obtain ⟨r, hr, hp⟩ := h
    exact ⟨r, Ev.congr (fun k => by unfold assessorref26_Propagate.f; rfl) (Ev.bind hv hr), hp⟩
  by_cases hvc : validC n cl = true
  · obtain ⟨⟨h0n, hn, _⟩, hcl⟩ := (validC_iff n cl).1 hvc
    simp only [hvc, if_true]
    by_cases hst : st.all (startOk n) = true
    · have hst' := List.all_eq_true.1 hst
      obtain ⟨q, hq, hsp⟩ := closure_f (st := st) hn h0n hcl hl hst' hsl
      suffices h : ∃ r, Ev (fun k => if q.2 = true then assessorref26_Propagate.l1 k q.1 ([] : List Int) 1 n cl else some (([] : List Int), false, 0)) r ∧ PropRes n cl st r by
        obtain ⟨r, hr, hp⟩ := h
        exact ⟨r, propagate_l0 hn h0n hl hsl r (fun _ => Ev.bind hq hr) (fun e => by rw [hst] at e; cases e) st.length 0 (by omega) (by omega) (by omega) rfl, hp⟩
      cases hb : q.2 with
      | false =>
        have hcl2 := hsp.1 hb
        refine ⟨([], false, 0), by simpa using Ev.now (([] : List Int), false, (0 : Int)), ?_⟩
        unfold PropRes
        rw [if_pos ⟨hvc, hst⟩]
        exact ⟨rfl, fun _ => ⟨rfl, rfl⟩, fun h => absurd hcl2 h⟩
      | true =>
        obtain ⟨hg, hs, hclo⟩ := hsp.2 hb
        obtain ⟨r, hr, hi, hrg, hmem⟩ := propagate_l1 hn h0n hg n.toNat 1 [] (by omega) (by omega) (by omega) (by simp) (by simp [Inc]) (by simp) (fun l l0 l1 => by omega) (by simp)
        have hup : ∀ l, UP cl st l → rd q.1 (l.natAbs : Int) = l := fun l h => by
          have key : ∀ l, UP cl st l → rd q.1 (l.natAbs : Int) = l := by
            intro l h
            induction h with
            | start h => exact hs _ h
            | unit hc' hl' _ ih => exact (hclo _ hc').2 _ hl' (fun x hx hne => by have := ih x hx hne; rwa [Int.natAbs_neg] at this)
          exact key l h
        refine ⟨(r, true, 0), by simpa using hr, ?_⟩
        unfold PropRes
        rw [if_pos ⟨hvc, hst⟩]
        refine ⟨rfl, fun hx => ?_, fun _ => ⟨rfl, hi, fun l => ⟨fun hl2 => ?_, fun h => ?_⟩⟩⟩
        · exfalso
          rcases hx with ⟨l, h1, h2⟩ | h
          · have a := hup l h1
            have b := hup (-l) h2
            have := h1.range hcl hst'
            rw [Int.natAbs_neg] at b
            omega
          · exact absurd rfl (hclo [] h).1
        · have h3 := hrg l hl2
          exact hg.up l h3.1 (by omega) (by omega) ((hmem l h3.1 (by omega) (by omega)).1 hl2)
        · have h3 := h.range hcl hst'
          exact (hmem l h3.1 h3.2.1 h3.2.2).2 (hup l h)
    · have hst2 : st.all (startOk n) = false := by simpa using hst
      refine ⟨([], false, 1), propagate_l0 hn h0n hl hsl _ (fun e => absurd e hst) (fun _ => rfl) st.length 0 (by omega) (by omega) (by omega) rfl, ?_⟩
      unfold PropRes
      rw [if_neg (fun h => hst h.2)]
  · refine ⟨([], false, 1), by simpa [hvc] using Ev.now (([] : List Int), false, (1 : Int)), ?_⟩
    unfold PropRes
    rw [if_neg (fun h => hvc h.1)]
end Go.Proofs.YteaohgebocbehaaGreatDoor.Plain
end
section
/- cnf.Propagate at any arguments, by the one answer that it may give. Conditions as written in each. -/
set_option linter.unusedVariables false
set_option linter.unusedSimpArgs false
namespace Go.Proofs.YteaohgebocbehaaGreatDoor.Hand
open Go.RowKit Go.Lib Go.Shelf Go.Proofs.YteaohgebocbehaaGreatDoorW Go.Proofs.YteaohgebocbehaaGreatDoorW.PrintWords Go.Proofs.YteaohgebocbehaaGreatDoorW.PrintLast Go.Proofs.YteaohgebocbehaaGreatDoorW.PrintMore Go.Proofs.YteaohgebocbehaaGreatDoor.Plain Go.Proofs.YteaohgebocbehaaGreatDoor.XA
attribute [local go_sem] max2_int min2_int max_two min_two max_three min_three max_four min_four
theorem propOk_res {n : Int} {cl : List (List Int)} {st r : List Int} {b : Bool} (hv : validC n cl = true) (hst : st.all (startOk n) = true) (h : PropOk n cl st r b) : PropRes n cl st (r, b, 0) := by
  obtain ⟨⟨h0n, hn, _⟩, hcl⟩ := (validC_iff n cl).1 hv
  have hst' := List.all_eq_true.1 hst
  obtain ⟨s1, s2⟩ := propS_spec (st := st) hn h0n hcl hst'
  unfold PropRes
  rw [if_pos ⟨hv, hst⟩]
  unfold PropOk at h
  by_cases hf : (propS n cl st).fails = true
  · rw [if_pos hf] at h
    exact ⟨rfl, fun _ => h, fun hc => absurd (s1 hf) hc⟩
  · rw [if_neg hf] at h
    obtain ⟨h1, h2, h3⟩ := h
    obtain ⟨t1, t2, t3⟩ := s2 (by simpa using hf)
    have hnd : r.Nodup := h2.nodup_iff.2 t3
    refine ⟨rfl, fun hc => absurd hc t1, fun _ => ⟨h1, ?_, fun l => (h2.mem_iff).trans (t2 l)⟩⟩
    unfold Inc
    have hp : r.Pairwise fun x y => ¬ y.natAbs < x.natAbs ∧ x ≠ y := h3.and hnd
    refine hp.imp_of_mem fun {a b} ha hb hab => ?_
    obtain ⟨e1, e2⟩ := hab
    have ua := (t2 a).1 (h2.mem_iff.1 ha)
    have ub := (t2 b).1 (h2.mem_iff.1 hb)
    by_cases e : b = -a
    · exact absurd (Or.inl ⟨a, ua, by rw [← e]; exact ub⟩) t1
    · omega
/-- cnf.Propagate, at any arguments. -/
theorem prop_calls (n : Int) (A : Option Addr) (c : Nat) (cl : List (List Int)) (As : Option Addr) (cs : Nat) (start : List Int) (w : World) (hr : kL.C w A cl.length cl) (hc : cl.length ≤ c) (hf : Fine cl) (hs : kI.C w As start.length start) (hsl : start.length ≤ 17592186044416) :
    Calls Tryz.prog 24 #[.agg #[.int .i64 n, .slice A cl.length c], .slice As start.length cs] w fun e w' => ∃ A' c' r, e = .returned (.tuple #[.slice A' r.1.length c', .bool r.2.1, .int .i64 r.2.2]) ∧ PropRes n cl start r ∧ r.1.length ≤ c' ∧ kI.C w' A' r.1.length r.1 ∧ Below w.heap.size w w' := by
  have bad : ∀ w', ¬ (validC n cl = true ∧ start.all (startOk n) = true) → Below w.heap.size w w' → ∃ A' c' r, (Ending.returned (.tuple #[.slice none 0 0, .bool false, .int .i64 1])) = .returned (.tuple #[.slice A' r.1.length c', .bool r.2.1, .int .i64 r.2.2]) ∧ PropRes n cl start r ∧ r.1.length ≤ c' ∧ kI.C w' A' r.1.length r.1 ∧ Below w.heap.size w w' := fun w' h hb =>
    ⟨none, 0, ([], false, 1), rfl, by unfold PropRes; rw [if_neg h], Nat.le_refl _, (Kd.R_reads' (Kd.R_nil kI 3 w' w.heap.size (fun _ => True))).2.2, hb⟩
  by_cases hv : validC n cl = true
  · by_cases hst : start.all (startOk n) = true
    · refine (Propagate_good n A c cl As cs start w hr hc hf hs hsl hv hst).mono ?_
      rintro e w' ⟨v, r, b, rfl, hR, hok, hb⟩
      obtain ⟨A', c', rfl⟩ := Kd.R_slice hR
      exact ⟨A', c', (r, b, 0), rfl, propOk_res hv hst hok, (Kd.R_reads' hR).2.1, (Kd.R_reads' hR).2.2, hb⟩
    · refine (Propagate_bad n A c cl As cs start w hr hc hf hs hsl hv (by simpa using hst)).mono ?_
      rintro e w' ⟨rfl, hb⟩
      exact bad w' (fun h => hst h.2) hb
  · refine (Propagate_invalid n A c cl As cs start w hr hc hf (by simpa using hv)).mono ?_
    rintro e w' ⟨rfl, hb⟩
    exact bad w' (fun h => hv h.1) hb
theorem propRes_len {n : Int} {cl : List (List Int)} {st : List Int} {r : List Int × Bool × Int} (h : PropRes n cl st r) : r.1.length ≤ 4611686018427387904 := by
  unfold PropRes at h
  by_cases hc : validC n cl = true ∧ st.all (startOk n) = true
  · rw [if_pos hc] at h
    obtain ⟨⟨h0n, hn, _⟩, hcl⟩ := (validC_iff n cl).1 hc.1
    by_cases hx : Clash cl st
    · rw [(h.2.1 hx).1]; simp
    · obtain ⟨_, hi, hm⟩ := h.2.2 hx
      have hr : clauseOk n r.1 = true := (clauseOk_iff n r.1).2 ⟨hi, fun l hl => ((hm l).1 hl).range hcl (List.all_eq_true.1 hc.2)⟩
      have := clauseOk_length h0n hr
      omega
  · rw [if_neg hc] at h
    rw [h]; simp
theorem propRes_short {n : Int} {cl : List (List Int)} {st : List Int} {r : List Int × Bool × Int} (h : PropRes n cl st r) : r.1.length ≤ 65536 := by
  unfold PropRes at h
  by_cases hc : validC n cl = true ∧ st.all (startOk n) = true
  · rw [if_pos hc] at h
    obtain ⟨⟨h0n, hn, _⟩, hcl⟩ := (validC_iff n cl).1 hc.1
    by_cases hx : Clash cl st
    · rw [(h.2.1 hx).1]; simp
    · obtain ⟨_, hi, hm⟩ := h.2.2 hx
      have hr : clauseOk n r.1 = true := (clauseOk_iff n r.1).2 ⟨hi, fun l hl => ((hm l).1 hl).range hcl (List.all_eq_true.1 hc.2)⟩
      have := clauseOk_length h0n hr
      omega
  · rw [if_neg hc] at h
    rw [h]; simp
end Go.Proofs.YteaohgebocbehaaGreatDoor.Hand
end
section
/- CnfPropagates: the walk: true at every formula and list, given what the library's variables hold. -/
set_option linter.unusedVariables false
set_option linter.unusedSimpArgs false
namespace Go.Proofs.YteaohgebocbehaaGreatDoor.Hand
open Go.RowKit Go.Lib Go.Shelf Go.Proofs.YteaohgebocbehaaGreatDoorW Go.Proofs.YteaohgebocbehaaGreatDoorW.PrintWords Go.Proofs.YteaohgebocbehaaGreatDoorW.PrintLast Go.Proofs.YteaohgebocbehaaGreatDoorW.PrintMore Go.Proofs.YteaohgebocbehaaGreatDoor.Plain Go.Proofs.YteaohgebocbehaaGreatDoor.XA
attribute [local go_sem] max2_int min2_int max_two min_two max_three min_three max_four min_four
theorem rprop_calls (n : Int) (A : Option Addr) (c : Nat) (cl : List (List Int)) (As : Option Addr) (cs : Nat) (start : List Int) (w : World) (hr : kL.C w A cl.length cl) (hc : cl.length ≤ c) (hf : Fine cl) (hs : kI.C w As start.length start) (hcs : start.length ≤ cs) (hsl : start.length ≤ 17592186044416) :
    Calls Tryz.prog 25 #[.agg #[.int .i64 n, .slice A cl.length c], .slice As start.length cs] w fun e w' => ∃ A' c' r, e = .returned (.tuple #[.slice A' r.1.length c', .bool r.2.1, .int .i64 r.2.2]) ∧ PropRes n cl start r ∧ r.1.length ≤ c' ∧ kI.C w' A' r.1.length r.1 ∧ Below w.heap.size w w' := by
  obtain ⟨r, hr1, hp⟩ := rprop_f n cl start (fun c hc => by have := hf.2 c hc; omega) (by have := hf.1; omega) (by omega)
  obtain ⟨k, h⟩ := hr1.rounds
  obtain ⟨r1, r2, r3⟩ := r
  refine (assessorref26_Propagate.calls k n A c cl As cs start r1 r2 r3 w hr hc hs hcs h).mono ?_
  rintro e w' ⟨v, rfl, hR, hb⟩
  obtain ⟨A', c', rfl⟩ := Kd.R_slice hR
  exact ⟨A', c', (r1, r2, r3), rfl, hp, (Kd.R_reads' hR).2.1, (Kd.R_reads' hR).2.2, hb⟩
set_option maxHeartbeats 16000000 in
set_option maxRecDepth 100000 in
theorem Propagates_calls (n : Int) (A : Option Addr) (c : Nat) (cl : List (List Int)) (A1 : Option Addr) (c1 : Nat) (st : List Int) (w : World) (hr : kL.C w A cl.length cl) (hc : cl.length ≤ c) (hr1 : kI.C w A1 st.length st) (hc1 : st.length ≤ c1) (hcl : cl.length ≤ 9223372036854775807) (hT : Tabs w) :
    Calls Tryz.prog 5 #[.agg #[.int .i64 n, .slice A cl.length c], .slice A1 st.length c1] w fun e w' => e = .returned (.bool true) ∧ Below w.heap.size w w' := by
  have hu24 := Tryz.underlying24
  have HT := Aside0.mk hT
  have HR := Aside0.mk hr
  have HC := Aside0.mk hc
  have HR1 := Aside0.mk hr1
  have HC1 := Aside0.mk hc1
  have HCL := Aside0.mk hcl
  clear hT hr hc hr1 hc1 hcl
  go_enter Tryz.func5, Tryz.ntmps5
  go_wp2_with (first
    | ((with_reducible refine gate_dst (N := 2) rfl ?_); refine box_event ?hg (N := 2) ?hd (cs := #[.int .i64 n, .slice A cl.length c]) (t := 24) ?hr ?_; (case hd => rfl); (case hg => rfl); (case hr => first | (go_simp; done) | (go_simp; rfl)); intro g2 hg_ w2 h1_ h2_; have BK2 := Aside0.mk h1_; have HB2 := Aside0.mk h2_; have GEg2 := Aside0.mk hg_; clear h1_ h2_ hg_)
    | (go_at_call 10; refine (awake_calls w2 (HT.out.same HB2.out)).mono ?_; rintro e w3 ⟨rfl, hb⟩; have HL := Aside0.mk (LSt.later (⟨BK2.out, HB2.out⟩ : LSt w w2 g2 n A cl.length c) hb); have k0 := HL.out.cells.1; have k1 := HL.out.cells.2; clear hb))
  refine (small_calls n 100 40 A c cl w3 (Kd.C_below HR.out HL.out.below) HC.out HCL.out).mono ?_
  rintro e w4 ⟨rfl, hb⟩
  have HL4 := Aside0.mk (HL.out.later hb)
  obtain ⟨k40, k41⟩ := HL4.out.cells
  clear hb k0 k1 BK2 HB2 HL
  obtain ⟨sm, hsm⟩ : ∃ b, b = smallC n cl 100 40 := ⟨_, rfl⟩
  rw [← hsm]
  have HSM := Aside0.mk hsm
  clear hsm
  cases sm with
  | false =>
    go_wp2
    go_ret
    exact ⟨rfl, HL4.out.below⟩
  | true =>
    by_cases h2 : 40 < (st.length : Int)
    · have d2 : decide (40 < (st.length : Int)) = true := decide_eq_true h2
      clear h2
      go_wp2
      go_ret
      exact ⟨rfl, HL4.out.below⟩
    have d2 : decide (40 < (st.length : Int)) = false := decide_eq_false h2
    have H2 := Aside0.mk h2
    clear h2
    have HF := Aside0.mk (small_fine HSM.out.symm (by have := (small_true HSM.out.symm).2.2; omega))
    go_wp2_with (fail)
    refine (prop_calls n A c cl A1 c1 st w4 (Kd.C_below HR.out HL4.out.below) HC.out HF.out (Kd.C_below HR1.out HL4.out.below) (by have := H2.out; omega)).mono ?_
    rintro e w5 ⟨A5, c5, r, rfl, hp, hc5, hr5, hb⟩
    have HL5 := Aside0.mk (HL4.out.later hb)
    have H5 := Aside0.mk (And.intro hp (And.intro hc5 hr5))
    obtain ⟨k50, k51⟩ := HL5.out.cells
    clear hp hb hc5 hr5 k40 k41 HL4
    obtain ⟨r1, r2, r3⟩ := r
    simp only at H5 ⊢
    go_wp2_with (fail)
    refine (rprop_calls n A c cl A1 c1 st w5 (Kd.C_below HR.out HL5.out.below) HC.out HF.out (Kd.C_below HR1.out HL5.out.below) HC1.out (by have := H2.out; omega)).mono ?_
    rintro e w6 ⟨A6, c6, q, rfl, hp, hc6, hr6, hb⟩
    obtain rfl := PropRes.unique hp H5.out.1
    have HL6 := Aside0.mk (HL5.out.later hb)
    have H6 := Aside0.mk (And.intro hc6 hr6)
    have H56 := Aside0.mk (And.intro H5.out.2.1 (Kd.C_below H5.out.2.2 hb))
    have HQL := Aside0.mk (propRes_len hp)
    clear hp hb hc6 hr6 HL5 H5 k50 k51
    simp only at H6 H56 HQL ⊢
    have z1 : (r2 == r2) = true := by simp
    have z2 : (r3 == r3) = true := by simp
    go_wp2_with (fail)
    refine (eqs_calls A5 c5 A6 c6 r1 w6 H56.out.2 H56.out.1 H6.out.2 H6.out.1 HQL.out).mono ?_
    rintro e w7 ⟨rfl, hd⟩
    have HL7 := Aside0.mk (HL6.out.later hd.below)
    clear hd
    go_wp2
    go_ret
    exact ⟨rfl, HL7.out.below⟩
end Go.Proofs.YteaohgebocbehaaGreatDoor.Hand
end
