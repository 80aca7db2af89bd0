/- Texts of this claim, one behind the other; each begins with what it proves. Conditions as written in each theorem. -/
import Derived.Lib.SlicesCompact
import Derived.Sort.Statements
import Derived.Test.YteaohgebocbehaaGreatDoorXAx0
import Derived.Test.YteaohgebocbehaaGreatDoorXAx2
import Derived.Test.YteaohgebocbehaaGreatDoorShelf
import Derived.Lib.LaidTab
import Derived.Lib.AtoiAll
import Derived.Below
import Derived.RowKit3
import Derived.KernelRfl
import Derived.Lib.RowBridge
import Derived.WalkKit
import Derived.IntWalk
import Derived.Lib.SliceRun
import Derived.Outline
import Derived.Test.YteaohgebocbehaaGreatDoorProg
import Derived.Lib.Strings
import Derived.Lib.Slices
import Derived.Lib.Walk
import Derived.Lib.Builder
import Derived.Lib.AppendStr
import Derived.Lib.UnsafeStr
import Derived.Laws.Externs
import Derived.Laws.IdiomCopy
import Derived.Laws.BitsLemmas
import Derived.Lib.ItoaLen
import Derived.Lib.SmallJoins
import Derived.Lib.SplitLaws
import Derived.DeepKeys3
section
/- The normal form of a clause, as plain lists: what is inserted one after the other is what is sorted and stripped of doubles. No program. No condition. -/
set_option linter.unusedVariables false
namespace Go.Proofs.YteaohgebocbehaaGreatDoor.Plain
open Go.Lib Go.Sort

/-- Increasing in the variable. -/
def Inc (l : List Int) : Prop := l.Pairwise fun x y => x.natAbs < y.natAbs

theorem inc_ext : ∀ (l r : List Int), Inc l → Inc r → (∀ x, x ∈ l ↔ x ∈ r) → l = r
  | [], [], _, _, _ => rfl
  | [], b :: s, _, _, h => absurd ((h b).2 List.mem_cons_self) (by simp)
  | a :: t, [], _, _, h => absurd ((h a).1 List.mem_cons_self) (by simp)
  | a :: t, b :: s, hl, hr, h => by
    obtain ⟨ha, ht⟩ := List.pairwise_cons.1 hl
    obtain ⟨hb, hs⟩ := List.pairwise_cons.1 hr
    have e : a = b := by
      have h1 := (h a).1 List.mem_cons_self
      have h2 := (h b).2 List.mem_cons_self
      rcases List.mem_cons.1 h1 with h1 | h1
      · exact h1
      · rcases List.mem_cons.1 h2 with h2 | h2
        · exact h2.symm
        · have := hb a h1; have := ha b h2; omega
    subst e
    rw [inc_ext t s ht hs fun x => ?_]
    constructor
    · intro hx
      rcases List.mem_cons.1 ((h x).1 (List.mem_cons_of_mem _ hx)) with e | e
      · subst e; have := ha x hx; omega
      · exact e
    · intro hx
      rcases List.mem_cons.1 ((h x).2 (List.mem_cons_of_mem _ hx)) with e | e
      · subst e; have := hb x hx; omega
      · exact e

/-- A literal laid into its place; none beside its opposite. -/
def ins (x : Int) : List Int → Option (List Int)
  | [] => some [x]
  | y :: t => if y.natAbs < x.natAbs then (ins x t).map (y :: ·) else if y = x then some (y :: t) else if y = -x then none else some (x :: y :: t)

theorem ins_spec (x : Int) (hx : x ≠ 0) : ∀ l, Inc l → (∀ r, ins x l = some r → Inc r ∧ (∀ y, y ∈ r ↔ y = x ∨ y ∈ l) ∧ -x ∉ l) ∧ (ins x l = none → -x ∈ l)
  | [], _ => ⟨fun r h => by cases h; simp [Inc], fun h => by cases h⟩
  | y :: t, h => by
    obtain ⟨hy, ht⟩ := List.pairwise_cons.1 h
    obtain ⟨ih1, ih2⟩ := ins_spec x hx t ht
    unfold ins
    by_cases c1 : y.natAbs < x.natAbs
    · rw [if_pos c1]
      constructor
      · intro r hr
        obtain ⟨q, hq, rfl⟩ := Option.map_eq_some_iff.1 hr
        obtain ⟨i1, i2, i3⟩ := ih1 q hq
        refine ⟨List.pairwise_cons.2 ⟨fun z hz => ?_, i1⟩, fun z => ?_, ?_⟩
        · rcases (i2 z).1 hz with e | e
          · subst e; exact c1
          · exact hy z e
        · simp only [List.mem_cons, i2]
          constructor <;> (intro hh; rcases hh with hh | hh | hh <;> simp [hh])
        · intro hh
          rcases List.mem_cons.1 hh with e | e
          · subst e; simp at c1
          · exact i3 e
      · intro hr
        exact List.mem_cons_of_mem _ (ih2 (by simpa using hr))
    · rw [if_neg c1]
      by_cases c2 : y = x
      · subst c2
        rw [if_pos rfl]
        refine ⟨fun r hr => ?_, fun hr => by cases hr⟩
        cases hr
        refine ⟨h, fun z => by simp, fun hh => ?_⟩
        rcases List.mem_cons.1 hh with e | e
        · omega
        · have := hy _ e; simp at this
      · rw [if_neg c2]
        by_cases c3 : y = -x
        · rw [if_pos c3]
          exact ⟨fun r hr => (nomatch hr), fun _ => by rw [c3]; exact List.mem_cons_self⟩
        · rw [if_neg c3]
          refine ⟨fun r hr => ?_, fun hr => by cases hr⟩
          cases hr
          have hlt : x.natAbs < y.natAbs := by omega
          refine ⟨List.pairwise_cons.2 ⟨fun z hz => ?_, h⟩, fun z => by simp, fun hh => ?_⟩
          · rcases List.mem_cons.1 hz with e | e
            · subst e; exact hlt
            · have := hy z e; omega
          · rcases List.mem_cons.1 hh with e | e
            · exact c3 e.symm
            · have := hy _ e; simp at this; omega

def inR (x : Int) : Bool := decide (x ≠ 0 ∧ -1073741824 ≤ x ∧ x ≤ 1073741824)
/-- The normal form, by insertion. -/
def nrm0 (l : List Int) : Option (List Int) := l.foldl (fun o x => o.bind (ins x)) (some [])
def nrm (l : List Int) : List Int × Bool := if l.all inR then (match nrm0 l with | some r => (r, true) | none => ([], false)) else ([], false)

theorem foldl_none (l : List Int) : l.foldl (fun (o : Option (List Int)) x => o.bind (ins x)) none = none := by
  induction l with
  | nil => rfl
  | cons x t ih => exact ih
theorem nrm0_gen : ∀ (l a : List Int), (∀ x ∈ l, x ≠ 0) → Inc a → (∀ x ∈ a, -x ∉ a) →
    (∀ r, l.foldl (fun o x => o.bind (ins x)) (some a) = some r → Inc r ∧ (∀ y, y ∈ r ↔ y ∈ a ∨ y ∈ l) ∧ ∀ x ∈ r, -x ∉ r) ∧
    (l.foldl (fun o x => o.bind (ins x)) (some a) = none → ∃ x, (x ∈ a ∨ x ∈ l) ∧ (-x ∈ a ∨ -x ∈ l))
  | [], a, _, ha, hn => ⟨fun r h => by cases h; exact ⟨ha, by simp, hn⟩, fun h => by cases h⟩
  | x :: t, a, hl, ha, hn => by
    have hx := hl x List.mem_cons_self
    obtain ⟨s1, s2⟩ := ins_spec x hx a ha
    simp only [List.foldl_cons, Option.bind_some]
    cases hi : ins x a with
    | none =>
      rw [foldl_none]
      exact ⟨fun r h => (nomatch h), fun _ => ⟨x, .inr List.mem_cons_self, .inl (s2 hi)⟩⟩
    | some b =>
      obtain ⟨b1, b2, b3⟩ := s1 b hi
      obtain ⟨i1, i2⟩ := nrm0_gen t b (fun y hy => hl y (List.mem_cons_of_mem _ hy)) b1 (fun y hy hny => by
        rcases (b2 y).1 hy with e | e <;> rcases (b2 (-y)).1 hny with e' | e'
        · omega
        · subst e; exact b3 e'
        · have : y = -x := by omega
          subst this; exact b3 e
        · exact hn y e e')
      constructor
      · intro r hr
        obtain ⟨j1, j2, j3⟩ := i1 r hr
        refine ⟨j1, fun y => ?_, j3⟩
        rw [j2, b2]
        simp only [List.mem_cons]
        constructor
        · rintro ((hh | hh) | hh) <;> simp [hh]
        · rintro (hh | hh | hh) <;> simp [hh]
      · intro hr
        obtain ⟨y, h1, h2⟩ := i2 hr
        refine ⟨y, ?_, ?_⟩
        · rw [b2] at h1; simp only [List.mem_cons]; rcases h1 with (h1 | h1) | h1 <;> simp [h1]
        · rw [b2] at h2; simp only [List.mem_cons]; rcases h2 with (h2 | h2) | h2 <;> simp [h2]
theorem nrm0_spec (l : List Int) (hl : ∀ x ∈ l, x ≠ 0) :
    (∀ r, nrm0 l = some r → Inc r ∧ (∀ y, y ∈ r ↔ y ∈ l) ∧ ∀ x ∈ r, -x ∉ r) ∧ (nrm0 l = none → ∃ x, x ∈ l ∧ -x ∈ l) := by
  have h := nrm0_gen l [] hl List.Pairwise.nil (by simp)
  simpa [nrm0] using h
/-- What is increasing in the variable and has a list's elements is its normal form. -/
theorem nrm0_of {l r : List Int} (hl : ∀ x ∈ l, x ≠ 0) (h1 : Inc r) (h2 : ∀ y, y ∈ r ↔ y ∈ l) : nrm0 l = some r := by
  obtain ⟨s1, s2⟩ := nrm0_spec l hl
  cases h : nrm0 l with
  | some q =>
    obtain ⟨q1, q2, _⟩ := s1 q h
    rw [inc_ext q r q1 h1 fun x => by rw [q2, h2]]
  | none =>
    obtain ⟨x, hx, hnx⟩ := s2 h
    have hx0 := hl x hx
    exfalso
    have a := (h2 x).2 hx
    have b := (h2 (-x)).2 hnx
    have key : ∀ s : List Int, Inc s → x ∈ s → -x ∈ s → False := by
      intro s
      induction s with
      | nil => intro _ h; cases h
      | cons c t ih =>
        intro hs ha hb
        obtain ⟨hc, ht⟩ := List.pairwise_cons.1 hs
        rcases List.mem_cons.1 ha with e | e <;> rcases List.mem_cons.1 hb with e' | e'
        · omega
        · have := hc _ e'; subst e; simp at this
        · have := hc _ e; rw [← e'] at this; simp at this
        · exact ih ht e e'
    exact key r h1 a b
theorem nrm0_opp {l : List Int} (hl : ∀ x ∈ l, x ≠ 0) {x : Int} (hx : x ∈ l) (hnx : -x ∈ l) : nrm0 l = none := by
  obtain ⟨s1, s2⟩ := nrm0_spec l hl
  cases h : nrm0 l with
  | none => rfl
  | some q =>
    obtain ⟨q1, q2, q3⟩ := s1 q h
    exact absurd ((q2 (-x)).2 hnx) (q3 x ((q2 x).2 hx))

/-! ### sorted, without doubles -/
theorem compactUpTo_mem (d : Array Int) (x : Int) : ∀ m, x ∈ compactUpTo d m ↔ ∃ j, j < m ∧ d[j]! = x
  | 0 => by simp [compactUpTo]
  | m + 1 => by
    rw [compactUpTo_succ, List.mem_append, compactUpTo_mem d x m]
    by_cases hk : keeps d m = true
    · rw [if_pos hk]
      constructor
      · rintro (⟨j, h, e⟩ | h)
        · exact ⟨j, by omega, e⟩
        · exact ⟨m, by omega, by simpa using (List.mem_singleton.1 h).symm⟩
      · rintro ⟨j, h, e⟩
        by_cases c : j < m
        · exact .inl ⟨j, c, e⟩
        · have : j = m := by omega
          subst this
          exact .inr (by rw [e]; exact List.mem_singleton.2 rfl)
    · rw [if_neg hk]
      constructor
      · rintro (⟨j, h, e⟩ | h)
        · exact ⟨j, by omega, e⟩
        · cases h
      · rintro ⟨j, h, e⟩
        refine .inl ?_
        by_cases c : j < m
        · exact ⟨j, c, e⟩
        · have : j = m := by omega
          subst this
          unfold keeps at hk
          have hk' : ¬(j = 0 ∨ d[j]! ≠ d[j - 1]!) := by simpa using hk
          refine ⟨j - 1, by omega, ?_⟩
          by_cases c2 : d[j]! = d[j - 1]!
          · rw [← c2]; exact e
          · exact absurd (.inr c2) hk'
theorem compactUpTo_sorted (R : Int → Int → Prop) (htr : ∀ x y z, R x y → R y z → R x z) (d : Array Int) : ∀ m, m ≤ d.size → (∀ i j, i < j → j < d.size → R d[i]! d[j]! ∨ d[i]! = d[j]!) → (compactUpTo d m).Pairwise R
  | 0, _, _ => by simp [compactUpTo]
  | m + 1, hm, hs => by
    rw [compactUpTo_succ]
    have ih := compactUpTo_sorted R htr d m (by omega) hs
    by_cases hk : keeps d m = true
    · rw [if_pos hk, List.pairwise_append]
      refine ⟨ih, List.pairwise_singleton _ _, fun x hx y hy => ?_⟩
      rw [List.mem_singleton.1 hy]
      obtain ⟨j, hj, rfl⟩ := (compactUpTo_mem d x m).1 hx
      unfold keeps at hk
      have hk' : m = 0 ∨ d[m]! ≠ d[m - 1]! := by simpa using hk
      rcases hk' with h0 | hne
      · omega
      · have h1 : R d[m - 1]! d[m]! := by
          rcases hs (m - 1) m (by omega) (by omega) with h | h
          · exact h
          · exact absurd h.symm hne
        by_cases c : j = m - 1
        · rw [c]; exact h1
        · rcases hs j (m - 1) (by omega) (by omega) with h | h
          · exact htr _ _ _ h h1
          · rw [h]; exact h1
    · rw [if_neg hk, List.append_nil]; exact ih
theorem compact_mem (l : List Int) (x : Int) : x ∈ compact l ↔ x ∈ l := by
  unfold compact
  rw [compactUpTo_mem]
  constructor
  · rintro ⟨j, hj, rfl⟩
    rw [getElem!_pos l.toArray j (by simpa using hj)]
    simp
  · intro h
    obtain ⟨j, hj, e⟩ := List.getElem_of_mem h
    exact ⟨j, hj, by rw [getElem!_pos l.toArray j (by simpa using hj)]; simpa using e⟩
theorem compact_sorted (R : Int → Int → Prop) (htr : ∀ x y z, R x y → R y z → R x z) (l : List Int) (hs : l.Pairwise fun x y => R x y ∨ x = y) : (compact l).Pairwise R := by
  unfold compact
  refine compactUpTo_sorted R htr l.toArray l.length (by simp) fun i j hij hj => ?_
  have hj' : j < l.length := by simpa using hj
  rw [getElem!_pos l.toArray i (by simp; omega), getElem!_pos l.toArray j (by simpa using hj)]
  simpa using List.pairwise_iff_getElem.1 hs i j (by omega) hj' hij

/-- The order of literals: by the variable, then by the value. -/
def LitLt (x y : Int) : Prop := x.natAbs < y.natAbs ∨ x.natAbs = y.natAbs ∧ x < y
theorem litLt_trans (x y z : Int) (h1 : LitLt x y) (h2 : LitLt y z) : LitLt x z := by unfold LitLt at *; omega
/-- Neighbours that are opposites. -/
def opps : List Int → Bool
  | x :: y :: t => decide (x = -y) || opps (y :: t)
  | _ => false
theorem opps_false : ∀ l : List Int, l.Pairwise LitLt → opps l = false → Inc l
  | [], _, _ => List.Pairwise.nil
  | [x], _, _ => List.pairwise_singleton _ _
  | x :: y :: t, h, ho => by
    simp only [opps, Bool.or_eq_false_iff, decide_eq_false_iff_not] at ho
    obtain ⟨h1, h2⟩ := List.pairwise_cons.1 h
    have ih := opps_false (y :: t) h2 ho.2
    have hxy : x.natAbs < y.natAbs := by
      have := h1 y List.mem_cons_self
      unfold LitLt at this
      omega
    refine List.pairwise_cons.2 ⟨fun z hz => ?_, ih⟩
    rcases List.mem_cons.1 hz with e | e
    · subst e; exact hxy
    · have := (List.pairwise_cons.1 ih).1 z e; omega
theorem opps_true : ∀ l : List Int, opps l = true → ∃ x, x ∈ l ∧ -x ∈ l
  | [], h => by cases h
  | [x], h => by cases h
  | x :: y :: t, h => by
    simp only [opps, Bool.or_eq_true, decide_eq_true_eq] at h
    rcases h with h | h
    · exact ⟨y, by simp, by rw [← h]; simp⟩
    · obtain ⟨z, h1, h2⟩ := opps_true (y :: t) h
      exact ⟨z, List.mem_cons_of_mem _ h1, List.mem_cons_of_mem _ h2⟩
/-- The code's way to the normal form: sorted, without doubles, unless neighbours are opposites. -/
theorem nrm_sorted {l s : List Int} (hl : l.all inR = true) (hm : ∀ x, x ∈ s ↔ x ∈ l) (hs : s.Pairwise fun x y => LitLt x y ∨ x = y) :
    nrm l = if opps (compact s) then ([], false) else (compact s, true) := by
  have h0 : ∀ x ∈ l, x ≠ 0 := fun x hx => by
    have := List.all_eq_true.1 hl x hx
    unfold inR at this
    have := of_decide_eq_true this
    exact this.1
  have hc := compact_sorted LitLt litLt_trans s hs
  have hcm : ∀ x, x ∈ compact s ↔ x ∈ l := fun x => by rw [compact_mem, hm]
  unfold nrm
  rw [if_pos hl]
  by_cases ho : opps (compact s) = true
  · rw [if_pos ho]
    obtain ⟨x, h1, h2⟩ := opps_true _ ho
    rw [nrm0_opp h0 ((hcm _).1 h1) ((hcm _).1 h2)]
  · rw [if_neg ho, nrm0_of h0 (opps_false _ hc (by simpa using ho)) hcm]
theorem nrm_out {l : List Int} (hl : l.all inR = false) : nrm l = ([], false) := by unfold nrm; rw [if_neg (by simp [hl])]
end Go.Proofs.YteaohgebocbehaaGreatDoor.Plain
end
section
/- Circuits as lists of pairs: what gates.Valid answers. No conditions. -/
set_option linter.unusedVariables false
namespace Go.Proofs.YteaohgebocbehaaGreatDoor.Plain
open Go.Proofs.YteaohgebocbehaaGreatDoor.XA Go.Proofs.YteaohgebocbehaaGreatDoorW.PrintWords
def pr (x : S62) : Int × Int := (x.f0, x.f1)
def notI (a : Int) : Int := Go.bits .xor .i64 a 1
def gOk : Int → List (Int × Int) → List S62 → Bool
  | _, _, [] => true
  | n, seen, x :: t => decide (2 ≤ x.f0) && (decide (x.f0 < x.f1) && (decide (x.f1 < 2 * n) && (!decide (x.f1 = notI x.f0) && (!decide (pr x ∈ seen) && gOk (n + 1) (seen ++ [pr x]) t))))
def gValid (inp : Int) (gs : List S62) : Bool := decide (0 ≤ inp) && (decide (inp ≤ 1024) && (decide (1 + inp + gs.length ≤ 65536) && gOk (1 + inp) [] gs))
/-- What the first i pairs are. -/
def seenTo (gs : List S62) (x : Int) : List (Int × Int) := (gs.take x.toNat).map pr
theorem drop62 {gs : List S62} {x : Int} (h0 : 0 ≤ x) (h1 : x < (gs.length : Int)) : gs.drop x.toNat = rd_T62 gs x :: gs.drop (x + 1).toNat := by
  have e : (x + 1).toNat = x.toNat + 1 := by omega
  have h : x.toNat < gs.length := by omega
  rw [e, List.drop_eq_getElem_cons h]
  congr 1
  unfold rd_T62
  rw [List.getD_eq_getElem?_getD, List.getElem?_eq_getElem h]
  rfl
theorem seen_step {gs : List S62} {x : Int} (h0 : 0 ≤ x) (h1 : x < (gs.length : Int)) : seenTo gs (x + 1) = seenTo gs x ++ [pr (rd_T62 gs x)] := by
  have e : (x + 1).toNat = x.toNat + 1 := by omega
  have h : x.toNat < gs.length := by omega
  unfold seenTo
  rw [e, List.take_add_one, List.getElem?_eq_getElem h, List.map_append]
  congr 1
  simp only [Option.toList, List.map_cons, List.map_nil]
  unfold rd_T62
  rw [List.getD_eq_getElem?_getD, List.getElem?_eq_getElem h]
  rfl
theorem gOk_end {n : Int} {s : List (Int × Int)} {gs : List S62} {x : Int} (h1 : ¬ x < (gs.length : Int)) : gOk n s (gs.drop x.toNat) = true := by
  rw [List.drop_eq_nil_of_le (by omega)]
  rfl
theorem gOk_step {inp : Int} {gs : List S62} {x : Int} (h0 : 0 ≤ x) (h1 : x < (gs.length : Int)) : gOk (1 + inp + x) (seenTo gs x) (gs.drop x.toNat) = (decide (2 ≤ (rd_T62 gs x).f0) && (decide ((rd_T62 gs x).f0 < (rd_T62 gs x).f1) && (decide ((rd_T62 gs x).f1 < 2 * (1 + inp + x)) && (!decide ((rd_T62 gs x).f1 = notI (rd_T62 gs x).f0) && (!decide (((rd_T62 gs x).f0, (rd_T62 gs x).f1) ∈ seenTo gs x) && gOk (1 + inp + (x + 1)) (seenTo gs (x + 1)) (gs.drop (x + 1).toNat)))))) := by
  rw [drop62 h0 h1, seen_step h0 h1]
  simp only [gOk, pr]
  rw [show 1 + inp + x + 1 = 1 + inp + (x + 1) by omega]
  rfl
end Go.Proofs.YteaohgebocbehaaGreatDoor.Plain
end
section
/- What cnf.Translate answers. No conditions. -/
set_option linter.unusedVariables false
namespace Go.Proofs.YteaohgebocbehaaGreatDoor.Plain
open Go.RowKit Go.Proofs.YteaohgebocbehaaGreatDoor.XA Go.Proofs.YteaohgebocbehaaGreatDoorW.PrintWords
def litC (x : Int) : Int := (cnf_Literal.f x).getD 0
theorem litC_f (x : Int) : cnf_Literal.f x = some (litC x) := by
  unfold litC cnf_Literal.f
  split
  · rfl
  · split <;> rfl
/-- A clause as add puts it. -/
def addC (l : List Int) : List Int := (nrm l).1
def trGates (v : Int) : List S62 → List (List Int)
  | [] => []
  | x :: t => [addC [-v, litC x.f0], addC [-v, litC x.f1], addC [v, -litC x.f0, -litC x.f1]] ++ trGates (v + 1) t
def litsOk (n : Int) (l : List Int) : Bool := l.all fun x => decide (0 ≤ x ∧ x < 2 * n)
def trF (inp : Int) (gs : List S62) (l : List Int) : List (List Int) := [[-1]] ++ trGates (inp + 2) gs ++ l.map fun x => addC [litC x]
def transC (inp : Int) (gs : List S62) (l : List Int) : Int × List (List Int) × Int :=
  if gValid inp gs = false then (0, [], 1)
  else if litsOk (1 + inp + gs.length) l = false then (0, [], 1)
  else if 262144 < 1 + 3 * (gs.length : Int) + l.length then (0, [], 8)
  else (1 + inp + gs.length, trF inp gs l, 0)
theorem gValid_iff (inp : Int) (gs : List S62) : gValid inp gs = true → 0 ≤ inp ∧ inp ≤ 1024 ∧ 1 + inp + gs.length ≤ 65536 := by
  unfold gValid
  simp only [Bool.and_eq_true, decide_eq_true_eq]
  rintro ⟨h1, h2, h3, _⟩
  exact ⟨h1, h2, h3⟩
theorem gOk_get : ∀ (gs : List S62) (n : Int) (s : List (Int × Int)), gOk n s gs = true → ∀ (i : Nat) (h : i < gs.length), 2 ≤ gs[i].f0 ∧ gs[i].f0 < gs[i].f1 ∧ gs[i].f1 < 2 * (n + i)
  | [], _, _, _, i, h => absurd h (Nat.not_lt_zero _)
  | x :: t, n, s, hg, i, h => by
    simp only [gOk, Bool.and_eq_true, decide_eq_true_eq] at hg
    obtain ⟨h1, h2, h3, _, _, h6⟩ := hg
    cases i with
    | zero => exact ⟨h1, h2, by simpa using h3⟩
    | succ i =>
      have := gOk_get t (n + 1) _ h6 i (by simpa using h)
      simp only [List.getElem_cons_succ]
      exact ⟨this.1, this.2.1, by have := this.2.2; omega⟩
theorem gValid_get {inp : Int} {gs : List S62} (h : gValid inp gs = true) {x : Int} (h0 : 0 ≤ x) (h1 : x < (gs.length : Int)) : 2 ≤ (rd_T62 gs x).f0 ∧ (rd_T62 gs x).f0 < (rd_T62 gs x).f1 ∧ (rd_T62 gs x).f1 < 2 * (1 + inp + x) := by
  have hl : x.toNat < gs.length := by omega
  have e : rd_T62 gs x = gs[x.toNat] := by
    unfold rd_T62
    rw [List.getD_eq_getElem?_getD, List.getElem?_eq_getElem hl]
    rfl
  unfold gValid at h
  simp only [Bool.and_eq_true] at h
  have := gOk_get gs _ _ h.2.2.2 x.toNat hl
  rw [e]
  exact ⟨this.1, this.2.1, by have := this.2.2; omega⟩
theorem take62 {gs : List S62} {x : Int} (h0 : 0 ≤ x) (h1 : x < (gs.length : Int)) : gs.take (x + 1).toNat = gs.take x.toNat ++ [rd_T62 gs x] := by
  have e : (x + 1).toNat = x.toNat + 1 := by omega
  have h : x.toNat < gs.length := by omega
  rw [e, List.take_add_one, List.getElem?_eq_getElem h]
  congr 1
  simp only [Option.toList]
  unfold rd_T62
  rw [List.getD_eq_getElem?_getD, List.getElem?_eq_getElem h]
  rfl
theorem trGates_snoc (gs : List S62) (x : S62) : ∀ v, trGates v (gs ++ [x]) = trGates v gs ++ [addC [-(v + gs.length), litC x.f0], addC [-(v + gs.length), litC x.f1], addC [v + gs.length, -litC x.f0, -litC x.f1]] := by
  induction gs with
  | nil => intro v; simp [trGates]
  | cons y t ih =>
    intro v
    simp only [List.cons_append, trGates, ih (v + 1), List.length_cons, List.append_assoc]
    rw [show v + 1 + (t.length : Int) = v + ((t.length + 1 : Nat) : Int) by omega]
theorem trGates_length (gs : List S62) : ∀ v, (trGates v gs).length = 3 * gs.length := by
  induction gs with
  | nil => intro v; rfl
  | cons y t ih => intro v; simp only [trGates, List.length_append, ih, List.length_cons, List.length_nil]; omega
theorem litC_range {x n : Int} (h0 : 0 ≤ x) (h1 : x < 2 * n) (hn : n ≤ 1048576) : 1 ≤ (litC x).natAbs ∧ ((litC x).natAbs : Int) ≤ n := by
  unfold litC cnf_Literal.f
  rw [if_neg (by omega)]
  have h : Int.tdiv x 2 = x / 2 := by rw [Int.tdiv_eq_ediv_of_nonneg h0]
  rw [h]
  have hw : ∀ y : Int, -9223372036854775808 ≤ y → y ≤ 9223372036854775807 → wrap64 y = y := fun y h1 h2 => by unfold wrap64; omega
  rw [hw (x / 2) (by omega) (by omega), hw (x / 2 + 1) (by omega) (by omega), hw (-(x / 2 + 1)) (by omega) (by omega)]
  split
  · simp only [Option.getD_some]; omega
  · simp only [Option.getD_some]; omega
end Go.Proofs.YteaohgebocbehaaGreatDoor.Plain
end
section
/- strconv.Itoa, strconv.Atoi, strings.Split, strings.Cut at this program, in worlds where the library's package-level variables are as the program lays them ('Tabs'), and that this stays so as long as nothing below a bound is written. Conditions as written in each. -/
set_option linter.unusedVariables false
namespace Go.Proofs.YteaohgebocbehaaGreatDoor.Hand
open Go.RowKit Go.Sort
theorem below_drewN {B : Nat} (w : World) (n : Nat) : Below B w (w.drewN n) := ⟨rfl, rfl, rfl, Nat.le_refl _, fun _ _ => rfl⟩
theorem below_grow {B : Nat} (w : World) (os : Array Obj) (hB : B ≤ w.heap.size) : Below B w (grow w os) :=
  ⟨rfl, rfl, rfl, by simp [grow], fun k hk => by
    show (w.heap ++ os)[k]? = w.heap[k]?
    exact Array.getElem?_append_left (Nat.lt_of_lt_of_le hk hB)⟩
theorem below_bytes {B : Nat} (w : World) (t : ByteArray) (hB : B ≤ w.heap.size) : Below B w (Lib.bytesWorld w 5 t) := by
  refine ⟨rfl, rfl, rfl, by simp [Lib.bytesWorld, World.freeze, World.alloc], fun k hk => ?_⟩
  have hk' : k < w.heap.size := Nat.lt_of_lt_of_le hk hB
  simp only [Lib.bytesWorld, World.freeze]
  rw [if_neg (by decide)]
  show ((w.drew.alloc _).heap.modify _ _)[k]? = _
  rw [Array.getElem?_modify, if_neg (by omega)]
  exact Below.heap_alloc w.drew _ k hk'
/-- What the library's variables hold. -/
structure Tabs (w : World) : Prop where
  pow : Lib.TabIs Tryz.prog w "internal/strconv.uint64pow10" .u64 Lib.pow10Tab
  most : ∃ m, w.cell? ⟨2, 0, none⟩ = some (.int .i64 m)
  synt : ∃ ev, w.cell? ⟨0, 0, none⟩ = some ev ∧ (ev = .nilIface ∨ ∃ te pe, ev = .iface te pe)
  range : ∃ ev, w.cell? ⟨1, 0, none⟩ = some ev ∧ (ev = .nilIface ∨ ∃ te pe, ev = .iface te pe)
  size : 8 ≤ w.heap.size
theorem Tabs.below {B : Nat} {w w' : World} (h : Tabs w) (hb : Below B w w') (hB : 8 ≤ B) : Tabs w' := by
  refine ⟨?_, ?_, ?_, ?_, Nat.le_trans h.size hb.size⟩
  · have hp := h.pow
    unfold Lib.TabIs World.var? at hp ⊢
    have e : Tryz.prog.globalNamed "internal/strconv.uint64pow10" = some 3 := by kernel_rfl
    rw [e] at hp ⊢
    simp only [Option.bind_some] at hp ⊢
    rw [hb.block 3 (by omega)]
    exact hp
  · obtain ⟨m, hm⟩ := h.most
    exact ⟨m, by rw [hb.cell (p := ⟨2, 0, none⟩) (by show 2 < B; omega)]; exact hm⟩
  · obtain ⟨m, hm, h2⟩ := h.synt
    exact ⟨m, by rw [hb.cell (p := ⟨0, 0, none⟩) (by show 0 < B; omega)]; exact hm, h2⟩
  · obtain ⟨m, hm, h2⟩ := h.range
    exact ⟨m, by rw [hb.cell (p := ⟨1, 0, none⟩) (by show 1 < B; omega)]; exact hm, h2⟩
theorem Tabs.same {w w' : World} (h : Tabs w) (hb : Below w.heap.size w w') : Tabs w' := h.below hb h.size
theorem Tabs.drawn {w : World} (h : Tabs w) (n : Nat) : Tabs (w.drewN n) := h.same (below_drewN _ n)

theorem itoa (n : Int) (h : (Lit.int .i64 n).wf = true) (w : World) (hT : Tabs w) :
    Calls Tryz.prog 67 #[.int .i64 n] w fun e w' => e = .returned (.string ⟨(Lib.itoa n).toArray⟩) ∧ Below w.heap.size w w' := by
  have hb : -9223372036854775808 ≤ n ∧ n ≤ 9223372036854775807 := by
    simp [Lit.wf, show IntKind.i64.min = -9223372036854775808 from by decide, show IntKind.i64.max = 9223372036854775807 from by decide] at h
    omega
  refine (Tryz.strconv_Itoa n hb.1 hb.2 w hT.pow).mono ?_
  rintro e w' ⟨rfl, k, os, rfl⟩
  exact ⟨rfl, (below_drewN w k).trans (below_grow _ os (Nat.le_refl _))⟩

/-- What strconv.Atoi hands back beside the error. -/
def atoiV (l : List UInt8) : Int := match Lib.atoiAll l with
  | .ok v => v
  | .range => Lib.atoiSat l
  | _ => 0
theorem atoi (s : ByteArray) (hs : s.size ≤ 140737488351232) (w : World) (hT : Tabs w) :
    Calls Tryz.prog 63 #[.string s] w fun e w' => (∃ er, e = .returned (.tuple #[.int .i64 (atoiV s.data.toList), er])) ∧ Below w.heap.size w w' := by
  unfold atoiV
  cases h : Lib.atoiAll s.data.toList with
  | ok v =>
    refine (Tryz.strconv_Atoi_ok s (by omega) v h w).mono ?_
    rintro e w' ⟨rfl, rfl | ⟨t, rfl⟩⟩
    · exact ⟨⟨_, rfl⟩, Below.refl _ _⟩
    · exact ⟨⟨_, rfl⟩, below_bytes w t (Nat.le_refl _)⟩
  | range =>
    obtain ⟨ev, hv, hev⟩ := hT.range
    refine (Tryz.strconv_Atoi_range s (by omega) h ev w hv hev).mono ?_
    rintro e w' ⟨N, rfl, _, _, hb⟩
    exact ⟨⟨_, rfl⟩, hb⟩
  | _ =>
    obtain ⟨ev, hv, hev⟩ := hT.synt
    refine (Tryz.strconv_Atoi_syntax s (by omega) (fun v e => by rw [h] at e; cases e) (fun e => by rw [h] at e; cases e) ev w hv hev).mono ?_
    rintro e w' ⟨N, rfl, _, _, hb⟩
    exact ⟨⟨_, rfl⟩, hb⟩
end Go.Proofs.YteaohgebocbehaaGreatDoor.Hand
end
section
/- slices.Clone, SortFunc, Compact, ContainsFunc at []int, told of rows that are read or are the call's own. Conditions as written in each. -/
set_option linter.unusedVariables false
set_option linter.unusedSimpArgs false
namespace Go.Proofs.YteaohgebocbehaaGreatDoor.Hand
open Go.RowKit Go.Lib Go.Sort Go.Shelf Go.Proofs.YteaohgebocbehaaGreatDoorW.PrintWords Go.Proofs.YteaohgebocbehaaGreatDoorW.PrintLast Go.Proofs.YteaohgebocbehaaGreatDoorW.PrintMore

abbrev kI : Kd Int := Kd.int .i64
def Any_ : Nat → Prop := fun _ => True

theorem encs_map (l : List Int) : encs (Value.int .i64) l = l.map (Value.int .i64) := rfl
theorem C_cells {w : World} {ad : Addr} {n : Nat} {l : List Int} (h : kI.C w (some ad) n l) (h0 : 0 < n) : ad.spot = none ∧ ∀ j, j < n → w.cell? ⟨ad.block, ad.off + j, none⟩ = some (.int .i64 (l.getD j 0)) := by
  obtain ⟨_, _, hc⟩ := Kd.reads_of_C (d := (0 : Int)) (h1 := fun _ => rfl) h
  obtain ⟨ad', e, hc⟩ := hc h0
  cases e
  have hs : ad.spot = none := by
    have h := hc 0 h0
    obtain ⟨b, o, s⟩ := ad
    cases s with
    | none => rfl
    | some s =>
      simp only [Addr.add, if_pos] at h
      unfold World.cell? at h
      split at h
      · simp at h
      · simp at h
  refine ⟨hs, fun j hj => ?_⟩
  have h := hc j hj
  obtain ⟨b, o, s⟩ := ad
  simp only at hs
  subst hs
  unfold Addr.add at h
  by_cases c : j = 0
  · subst c; simpa using h
  · rw [if_neg c] at h; exact h
theorem C_nil_len {w : World} {n : Nat} {l : List Int} (h : kI.C w none n l) : l = [] := by
  have h1 := h.1
  rcases Nat.eq_zero_or_pos n with e | e
  · exact List.eq_nil_of_length_eq_zero (by omega)
  · obtain ⟨_, e, _⟩ := h.2.2 e; cases e
theorem R_shape {w : World} {e base : Nat} {ok : Nat → Prop} {v : Value} {xs : List Int} (h : kI.R e w base ok v xs) :
    (v = .slice none 0 0 ∧ xs = []) ∨ ∃ g cap cur, v = .slice (some ⟨g, 0, none⟩) xs.length cap ∧ base ≤ g ∧ w.heap[g]? = some (.cells cur e (0, 0)) ∧ xs.length ≤ cap ∧ cap ≤ 9223372036854775807 ∧ cur.size = cap ∧ cur.toList.take xs.length = encs (Value.int .i64) xs := by
  have ho := Kd.own_of_R h
  rcases ho.2 with ⟨e, h0⟩ | ⟨g, cap, cur, e, hb, hg, hn, hm, hs, ht⟩
  · exact .inl ⟨e, List.eq_nil_of_length_eq_zero h0⟩
  · exact .inr ⟨g, cap, cur, e, hb, hg, hn, by simpa [maxLen] using hm, by omega, by simpa using ht⟩
theorem R_of_shape {w : World} {e base g cap : Nat} {ok : Nat → Prop} {xs : List Int} {cur : Array Value} (hb : base ≤ g) (hg : w.heap[g]? = some (.cells cur e (0, 0))) (hn : xs.length ≤ cap) (hm : cap ≤ 9223372036854775807) (hs : cur.size = cap)
    (ht : cur.toList.take xs.length = encs (Value.int .i64) xs) (hok : ok g) : kI.R e w base ok (.slice (some ⟨g, 0, none⟩) xs.length cap) xs := by
  refine Kd.R_of_own ⟨by simp [encs], .inr ⟨g, cap, cur, rfl, hb, hg, hn, by simpa [maxLen] using hm, by omega, by simpa using ht⟩⟩ fun k hk => ?_
  simp only [Value.ownBlock, Option.some.injEq] at hk
  subst hk
  exact hok
theorem getElem!_eq (d : Array Int) (i : Nat) (h : i < d.size) : d[i]! = d[i] := getElem!_pos d i h
theorem holds_own {w : World} {e g : Nat} {xs : List Int} {cur : Array Value} (hg : w.heap[g]? = some (.cells cur e (0, 0))) (ht : cur.toList.take xs.length = encs (Value.int .i64) xs) : Holds (Value.int .i64) w g 0 xs.toArray := by
  intro j hj
  have hj' : j < xs.length := by simpa using hj
  refine ⟨?_, by simp [World.frozen?, hg]⟩
  rw [Nat.zero_add, blk_cell hg]
  have h : (cur.toList.take xs.length)[j]? = some (Value.int .i64 xs[j]) := by rw [ht]; simp [encs, hj']
  rw [List.getElem?_take, if_pos hj', Array.getElem?_toList] at h
  rw [h, getElem!_eq _ _ hj]
  simp
theorem putRow_blk {w : World} {e g : Nat} {d : Array Int} {cur : Array Value} (hg : w.heap[g]? = some (.cells cur e (0, 0))) : (putRow (Value.int .i64) w g 0 d).heap[g]? = some (.cells (putCells (Value.int .i64) 0 d cur) e (0, 0)) := by
  simp only [putRow, mapBlock, Array.getElem?_modify, if_pos, hg]
  rfl
theorem putRow_other {w : World} {g k : Nat} {d : Array Int} (hk : k ≠ g) : (putRow (Value.int .i64) w g 0 d).heap[k]? = w.heap[k]? := by
  simp only [putRow, mapBlock, Array.getElem?_modify]
  rw [if_neg (fun h => hk h.symm)]
theorem putCells_take {d : Array Int} {cur : Array Value} (m : Nat) (hm : m ≤ d.size) (hs : d.size ≤ cur.size) : (putCells (Value.int .i64) 0 d cur).toList.take m = encs (Value.int .i64) (d.toList.take m) := by
  apply List.ext_getElem?
  intro j
  by_cases hj : j < m
  · rw [List.getElem?_take, if_pos hj, Array.getElem?_toList]
    unfold putCells
    rw [Array.getElem?_mapIdx, Array.getElem?_eq_getElem (by omega)]
    simp only [Option.map_some, Nat.zero_le, true_and, Nat.zero_add, Nat.sub_zero]
    rw [if_pos (by omega)]
    simp [encs, List.getElem?_take, hj, getElem!_eq d j (by omega), Array.getElem?_eq_getElem (show j < d.size by omega)]
  · rw [List.getElem?_eq_none (by simp; omega), List.getElem?_eq_none (by simp [encs]; omega)]
theorem R_put {w : World} {e base g cap : Nat} {ok : Nat → Prop} {xs : List Int} {d : Array Int} {m : Nat} (h : kI.R e w base ok (.slice (some ⟨g, 0, none⟩) xs.length cap) xs) (hd : d.size = xs.length) (hm : m ≤ xs.length) :
    kI.R e (putRow (Value.int .i64) w g 0 d) base ok (.slice (some ⟨g, 0, none⟩) m cap) (d.toList.take m) := by
  have hok : ok g := h.1 g rfl
  rcases R_shape h with ⟨e, _⟩ | ⟨g', cap', cur, e, hb, hg, hn, hc, hs, ht⟩
  · cases e
  · simp only [Value.slice.injEq, Option.some.injEq, Addr.mk.injEq, and_true, true_and] at e
    obtain ⟨rfl, rfl⟩ := e
    have hl : (d.toList.take m).length = m := by simp; omega
    have := R_of_shape (xs := d.toList.take m) (cap := cap) (ok := ok) hb (putRow_blk (d := d) hg) (by omega) hc (by simp [putCells, hs]) (by rw [hl]; exact putCells_take m (by omega) (by omega)) hok
    rwa [hl] at this
/-- A world in which nothing but block g turned, and new blocks came. -/
theorem grown_put (w : World) (g n : Nat) (d : Array Int) (os : Array Obj) : w.grownBy (sortWorld (Value.int .i64) w g 0 n d os) (some g) := by
  refine ⟨rfl, rfl, rfl, by simp [sortWorld, grow, Sort.ahead], fun k hk hne => ?_⟩
  have hk' : k ≠ g := fun e => hne (by rw [e])
  unfold sortWorld grow
  show ((putRow (Value.int .i64) (Sort.ahead w n) g 0 d).heap ++ os)[k]? = _
  rw [Array.getElem?_append_left (by rw [size_putRow]; exact hk), putRow_other hk']
  rfl
theorem R_grow {w : World} {e base : Nat} {ok : Nat → Prop} {v : Value} {xs : List Int} (h : kI.R e w base ok v xs) (os : Array Obj) : kI.R e (grow w os) base ok v xs :=
  Kd.R_below h ⟨rfl, rfl, rfl, by simp [grow], fun k hk => by show (w.heap ++ os)[k]? = _; exact Array.getElem?_append_left hk⟩

theorem clone (A : Option Addr) (c : Nat) (l : List Int) (w : World) (hr : kI.C w A l.length l) (hl : l.length ≤ 17592186044416) :
    Calls Tryz.prog 41 #[.slice A l.length c] w fun e w' => ∃ v, e = .returned v ∧ kI.R 3 w' w.heap.size (fun _ => True) v l ∧ Below w.heap.size w w' := by
  cases A with
  | none =>
    have hn := C_nil_len hr
    subst hn
    refine (Tryz.slices_Clone_int_nil _ c w).mono ?_
    rintro e w' ⟨rfl, rfl⟩
    exact ⟨_, rfl, Kd.R_nil _ _ _ _ _, Below.refl _ _⟩
  | some ad =>
    rcases Nat.eq_zero_or_pos l.length with h0 | h0
    · have hn := List.eq_nil_of_length_eq_zero h0
      subst hn
      refine (Tryz.slices_Clone_int_zero ad c w).mono ?_
      rintro e w' ⟨v, rfl, ho, _, hb⟩
      exact ⟨v, rfl, Kd.R_of_own ho (fun _ _ => trivial), hb⟩
    · obtain ⟨hs, hc⟩ := C_cells hr h0
      obtain ⟨b, o, s⟩ := ad
      simp only at hs
      subst hs
      refine (Tryz.slices_Clone_int b o l.length c l w (Nat.le_refl _) (by omega) (fun j hj => hc j hj)).mono ?_
      rintro e w' ⟨v, rfl, ho, _, hb⟩
      rw [List.take_length] at ho
      exact ⟨v, rfl, Kd.R_of_own ho (fun _ _ => trivial), hb⟩

/-- Sorted by a strict order that parts all numbers. -/
theorem sortTotal (cf : Int → Int → Int) (hO : SWO (ltOf cf)) (hT : ∀ x y, ltOf cf x y = false → ltOf cf y x = false → x = y) (g : Nat) (eg : ∀ args w, (callFunc g args).run Tryz.prog w = .ok (.enter g args) w)
    (hcmp : ∀ x y W, Calls Tryz.prog g #[.int .i64 x, .int .i64 y] W fun e w' => e = .returned (.int .i64 (cf x y)) ∧ ∃ q os, w' = grow (W.drewN q) os)
    (v : Value) (xs : List Int) (w : World) (base : Nat) (ok : Nat → Prop) (h : kI.R 3 w base ok v xs) (hl : xs.length ≤ 17592186044416) :
    Calls Tryz.prog 42 #[v, .func (.func g) #[] #[]] w fun e w' => e = .returned (.tuple #[]) ∧ kI.R 3 w' base ok v (xs.mergeSort fun x y => !(ltOf cf) y x) ∧ w.grownBy w' v.ownBlock := by
  rcases R_shape h with ⟨rfl, rfl⟩ | ⟨b, cap, cur, rfl, hb, hg, hn, hm, hs, ht⟩
  · refine (Tryz.slices_SortFunc_none (α := Int) none 0 _ w).mono ?_
    rintro e w' ⟨rfl, rfl⟩
    exact ⟨rfl, by simpa using h, World.grownBy.refl _ _⟩
  · have H := Tryz.slices_SortFunc_total (Value.int .i64) (fun _ => rfl) cf hO g #[] b 0 cap xs.toArray w eg (fun m os dk hs x y => hcmp x y _) (holds_own hg ht) (blk_lt hg) (by simp; omega) hT
    simp only [List.size_toArray] at H
    refine H.mono ?_
    rintro e w' ⟨rfl, n, os, rfl⟩
    refine ⟨rfl, ?_, ?_⟩
    · have hp := R_put (w := Sort.ahead w n) (d := (xs.mergeSort fun x y => !(ltOf cf) y x).toArray) (m := xs.length) h (by simp [List.length_mergeSort]) (Nat.le_refl _)
      have hg2 := R_grow hp os
      simpa [List.take_of_length_le, List.length_mergeSort, sortWorld] using hg2
    · exact grown_put w b n _ os

/-- Sorted by a strict order: some permutation, sorted. -/
theorem sortSome (cf : Int → Int → Int) (hO : SWO (ltOf cf)) (g : Nat) (eg : ∀ args w, (callFunc g args).run Tryz.prog w = .ok (.enter g args) w)
    (hcmp : ∀ x y W, Calls Tryz.prog g #[.int .i64 x, .int .i64 y] W fun e w' => e = .returned (.int .i64 (cf x y)) ∧ ∃ q os, w' = grow (W.drewN q) os)
    (v : Value) (xs : List Int) (w : World) (base : Nat) (ok : Nat → Prop) (h : kI.R 3 w base ok v xs) (hl : xs.length ≤ 17592186044416) :
    Calls Tryz.prog 42 #[v, .func (.func g) #[] #[]] w fun e w' => e = .returned (.tuple #[]) ∧ (∃ ys : List Int, ys.Perm xs ∧ ys.Pairwise (fun x y => ltOf cf y x = false) ∧ kI.R 3 w' base ok v ys) ∧ w.grownBy w' v.ownBlock := by
  rcases R_shape h with ⟨rfl, rfl⟩ | ⟨b, cap, cur, rfl, hb, hg, hn, hm, hs, ht⟩
  · refine (Tryz.slices_SortFunc_none (α := Int) none 0 _ w).mono ?_
    rintro e w' ⟨rfl, rfl⟩
    exact ⟨rfl, ⟨[], .refl _, List.Pairwise.nil, by simpa using h⟩, World.grownBy.refl _ _⟩
  · have H := Tryz.slices_SortFunc (Value.int .i64) (fun _ => rfl) cf hO g #[] b 0 cap xs.toArray w eg (fun m os dk hs x y => hcmp x y _) (holds_own hg ht) (blk_lt hg) (by simp; omega)
    simp only [List.size_toArray] at H
    refine H.mono ?_
    rintro e w' ⟨rfl, d', n, os, hp, hso, rfl⟩
    obtain ⟨hsz, _, hpp⟩ := hp
    simp only [List.size_toArray] at hsz
    refine ⟨rfl, ⟨d'.toList, ?_, ?_, ?_⟩, ?_⟩
    · have e : (d'.extract 0 xs.length).toList = d'.toList := by simp [List.take_of_length_le, hsz]
      rw [e] at hpp
      simpa using hpp
    · refine List.pairwise_iff_getElem.2 fun i j hi hj hij => ?_
      have hs2 := hso i j (Nat.zero_le _) hij (by simpa [hsz] using hj)
      rw [getElem!_eq _ _ (by simpa using hj), getElem!_eq _ _ (by simpa using hi)] at hs2
      simpa using hs2
    · have hp := R_put (w := Sort.ahead w n) (d := d') (m := xs.length) h hsz (Nat.le_refl _)
      have hg2 := R_grow hp os
      rw [List.take_of_length_le (by simp; omega)] at hg2
      exact hg2
    · exact grown_put w b n _ os

theorem compactC (v : Value) (xs : List Int) (w : World) (base : Nat) (ok : Nat → Prop) (h : kI.R 3 w base ok v xs) (hl : xs.length ≤ 17592186044416) :
    Calls Tryz.prog 47 #[v] w fun e w' => ∃ v', e = .returned v' ∧ kI.R 3 w' base ok v' (compact xs) ∧ w.grownBy w' v.ownBlock := by
  rcases R_shape h with ⟨rfl, rfl⟩ | ⟨b, cap, cur, rfl, hb, hg, hn, hm, hs, ht⟩
  · refine (Tryz.slices_Compact_int_empty none 0 w).mono ?_
    rintro e w' ⟨rfl, rfl⟩
    exact ⟨_, rfl, by simpa [compact, compactUpTo] using h, World.grownBy.refl _ _⟩
  · rcases Nat.eq_zero_or_pos xs.length with h0 | h0
    · have hx := List.eq_nil_of_length_eq_zero h0
      subst hx
      refine (Tryz.slices_Compact_int_empty _ cap w).mono ?_
      rintro e w' ⟨rfl, rfl⟩
      exact ⟨_, rfl, by simpa [compact, compactUpTo] using h, World.grownBy.refl _ _⟩
    · refine (Tryz.slices_Compact_int b 0 cap xs w (holds_own hg ht) (by omega) hn).mono ?_
      rintro e w' ⟨rfl, q, rfl⟩
      have hcl : (compact xs).length ≤ xs.length := compact_length_le xs
      refine ⟨_, rfl, ?_, ?_⟩
      · have hp := R_put (w := Sort.ahead w q) (d := (compact xs ++ List.replicate (xs.length - (compact xs).length) 0).toArray) (m := (compact xs).length) h (by simp; omega) hcl
        simpa using hp
      · have := grown_put w b q (compact xs ++ List.replicate (xs.length - (compact xs).length) 0).toArray #[]
        unfold sortWorld at this
        rwa [grow_empty] at this

theorem containsFunc {α : Type} [Inhabited α] (f : α → Int) (A : Option Addr) (c : Nat) (l : List Int) (zs : List α) (hz : l = zs.map f) (w : World) (hr : kI.C w A l.length l) (hl : l.length ≤ 17592186044416) (p : α → Bool) (g : Nat) (lb : Array Value) (eg : ∀ args w, (callFunc g args).run Tryz.prog w = .ok (.enter g args) w)
    (hp : 0 < l.length → PredAt Tryz.prog g lb (fun x => .int .i64 (f x)) p w) :
    Calls Tryz.prog 32 #[.slice A l.length c, .func (.func g) #[] lb] w fun e w' => e = .returned (.bool (zs.any p)) ∧ ∃ q, w' = w.drewN q := by
  have hzl : l.length = zs.length := by rw [hz, List.length_map]
  rcases Nat.eq_zero_or_pos l.length with h0 | h0
  · have hn := List.eq_nil_of_length_eq_zero (hzl.symm.trans h0)
    subst hn
    rw [h0]
    refine (Tryz.slices_ContainsFunc_empty (α := Int) A c _ w).mono ?_
    rintro e w' ⟨rfl, rfl⟩
    exact ⟨rfl, 0, rfl⟩
  · cases A with
    | none => have := C_nil_len hr; subst this; simp at h0
    | some ad =>
      obtain ⟨hs, hc⟩ := C_cells hr h0
      obtain ⟨b, o, s⟩ := ad
      simp only at hs
      subst hs
      refine (Tryz.slices_ContainsFunc (fun x => .int .i64 (f x)) p g lb eg b o l.length c zs w (hp h0) (by omega) (by omega) (fun j hj => by rw [hc j (by omega)]; simp [hz, List.getD, getElem!_pos zs j hj, hj])).mono ?_
      rintro e w' ⟨rfl, q, rfl⟩
      exact ⟨by rw [hzl, List.take_length], q, rfl⟩
end Go.Proofs.YteaohgebocbehaaGreatDoor.Hand
end
section
/- slices.SortFunc by the order of variables, then of literals (cnf.Normal's): the closure's walk; that it is a strict order of all numbers. No condition. -/
set_option linter.unusedVariables false
namespace Go.Proofs.YteaohgebocbehaaGreatDoor.Hand
open Go.Shelf Go.RowKit Go.Lib Go.Sort

/-- The variable of a literal. -/
def varOf (x : Int) : Int := max x (wrap64 (-x))
/-- The order of literals in a normal clause. -/
def litCmp (x y : Int) : Int := if Lib.compareInt (varOf x) (varOf y) = 0 then Lib.compareInt x y else Lib.compareInt (varOf x) (varOf y)

set_option maxHeartbeats 1000000 in
theorem variable_calls (x : Int) (W : World) : Calls Tryz.prog 46 #[.int .i64 x] W fun e w' => e = .returned (.int .i64 (varOf x)) ∧ w' = W := by
  unfold varOf
  go_enter Tryz.func46, Tryz.ntmps46
  go_wp2
  go_ret
  exact ⟨rfl, rfl⟩
theorem compare_calls (x y : Int) (W : World) : Calls Tryz.prog 45 #[.int .i64 x, .int .i64 y] W fun e w' => e = .returned (.int .i64 (Lib.compareInt x y)) ∧ w' = W := by
  have hcon := Tryz.cmp_Compare_int x y W
  exact hcon
set_option maxHeartbeats 1000000 in
theorem or_calls (x y : Int) (b : Nat) (W : World) (h0 : W.cell? ⟨b, 0, none⟩ = some (.int .i64 x)) (h1 : W.cell? ⟨b, 1, none⟩ = some (.int .i64 y)) :
    Calls Tryz.prog 44 #[.slice (some ⟨b, 0, none⟩) 2 2] W fun e w' => e = .returned (.int .i64 (if x = 0 then y else x)) ∧ ∃ q, w' = W.drewN q := by
  go_enter Tryz.func44, Tryz.ntmps44
  by_cases hx : x = 0
  · subst hx
    by_cases hy : y = 0
    · subst hy
      go_wp2
      refine wp_loop_rounds 3 ?_
      rw [rounds_succ]
      go_wp2
      rw [rounds_succ]
      go_wp2
      rw [rounds_succ]
      go_wp2
      go_ret
      exact ⟨rfl, 0, rfl⟩
    · go_wp2
      refine wp_loop_rounds 3 ?_
      rw [rounds_succ]
      go_wp2
      rw [rounds_succ]
      go_wp2
      go_ret
      exact ⟨rfl, 0, rfl⟩
  · go_wp2
    refine wp_loop_rounds 3 ?_
    rw [rounds_succ]
    go_wp2
    go_ret
    exact ⟨rfl, 0, rfl⟩
theorem alloc_grow (w : World) (o : Obj) (n : Nat) : (w.alloc o).drewN n = grow (w.drewN n) #[o] := by
  unfold grow World.alloc World.drewN
  simp
set_option maxHeartbeats 1000000 in
/-- The closure that compares two literals. -/
theorem litCmp_calls (x y : Int) (W : World) : Calls Tryz.prog 43 #[.int .i64 x, .int .i64 y] W fun e w' => e = .returned (.int .i64 (litCmp x y)) ∧ ∃ q os, w' = grow (W.drewN q) os := by
  unfold litCmp
  generalize hp : Lib.compareInt (varOf x) (varOf y) = p
  generalize hq : Lib.compareInt x y = q
  go_enter Tryz.func43, Tryz.ntmps43
  go_wp2_with (first
    | (go_at_call 46; refine (variable_calls _ _).mono ?_; rintro e w' ⟨rfl, rfl⟩)
    | (go_at_call 45; refine (compare_calls _ _ _).mono ?_; rintro e w' ⟨rfl, rfl⟩)
    | (go_at_call 44; refine (or_calls _ _ _ _ (by rw [Lib.cell_of_heap (heap_alloc_new _ _)]; rfl) (by rw [Lib.cell_of_heap (heap_alloc_new _ _)]; rfl)).mono ?_; rintro e w' ⟨rfl, n, rfl⟩))
  all_goals go_ret
  all_goals exact ⟨rfl, _, #[_], alloc_grow _ _ _⟩
theorem litCmp_lays (blk off size : Nat) (w : World) : CmpLays1 Tryz.prog 43 #[] (Value.int .i64) litCmp blk off size w := fun _ _ _ _ x y => litCmp_calls x y _
/-- The order as a test. -/
theorem litLt (x y : Int) : ltOf litCmp x y = decide (varOf x < varOf y ∨ varOf x = varOf y ∧ x < y) := by
  unfold ltOf litCmp Lib.compareInt
  rcases Int.lt_trichotomy (varOf x) (varOf y) with h | h | h
  · simp [h]
  · rw [h]
    simp only [Int.lt_irrefl, if_false, if_true, gt_iff_lt, false_or, true_and]
    by_cases h1 : x < y
    · simp [h1]
    · by_cases h2 : y < x <;> simp [h1, h2]
  · have h1 : ¬ varOf x < varOf y := by omega
    have h2 : ¬ varOf x = varOf y := by omega
    simp [h, h1, h2]
theorem litSwo : SWO (ltOf litCmp) where
  irrefl x := by rw [litLt]; simp
  trans x y z h1 h2 := by rw [litLt] at *; simp at *; omega
  ntrans x y z h1 h2 := by rw [litLt] at *; simp at *; omega
theorem litTot (x y : Int) (h1 : ltOf litCmp x y = false) (h2 : ltOf litCmp y x = false) : x = y := by rw [litLt] at *; simp at *; omega
end Go.Proofs.YteaohgebocbehaaGreatDoor.Hand
end
section
/- cnf.Normal at any clause: the walk. Condition: at most 2^44 literals. -/
set_option linter.unusedVariables false
set_option linter.unusedSimpArgs false
namespace Go.Proofs.YteaohgebocbehaaGreatDoor.Hand
open Go.RowKit Go.Lib Go.Shelf Go.Proofs.YteaohgebocbehaaGreatDoorW Go.Proofs.YteaohgebocbehaaGreatDoorW.PrintWords Go.Proofs.YteaohgebocbehaaGreatDoorW.PrintLast Go.Proofs.YteaohgebocbehaaGreatDoorW.PrintMore Go.Proofs.YteaohgebocbehaaGreatDoor.Plain
attribute [local go_sem] max2_int min2_int max_two min_two max_three min_three max_four min_four

theorem litCmp_enters : ∀ args w, (callFunc 43 args).run Tryz.prog w = .ok (.enter 43 args) w := Go.Proofs.enters_of Tryz.func43 (by kernel_rfl) rfl
theorem varOf_in {x : Int} (h : inR x = true) : varOf x = x.natAbs := by
  have h := of_decide_eq_true h
  have : wrap64 (-x) = -x := by unfold wrap64; omega
  unfold varOf
  rw [this]
  omega
theorem rd_mem (l : List Int) (x : Int) (h0 : 0 ≤ x) (h1 : x < (l.length : Int)) : PrintWords.rd l x ∈ l := by
  unfold PrintWords.rd
  have h : x.toNat < l.length := by omega
  rw [List.getD, List.getElem?_eq_getElem h]
  exact List.getElem_mem h
theorem nrm_bad {l : List Int} {x : Int} (h0 : 0 ≤ x) (h1 : x < (l.length : Int)) (h : PrintWords.rd l x = 0 ∨ PrintWords.rd l x < -1073741824 ∨ 1073741824 < PrintWords.rd l x) : nrm l = ([], false) := by
  refine nrm_out ?_
  rw [List.all_eq_false]
  refine ⟨_, rd_mem l x h0 h1, ?_⟩
  unfold inR
  simp only [decide_eq_true_eq]
  omega
theorem take_in {l : List Int} {x : Int} (h0 : 0 ≤ x) (h1 : x < (l.length : Int)) (h : ∀ y ∈ l.take x.toNat, inR y = true) (g1 : ¬ PrintWords.rd l x = 0) (g2 : -1073741824 ≤ PrintWords.rd l x) (g3 : PrintWords.rd l x ≤ 1073741824) : ∀ y ∈ l.take (x + 1).toNat, inR y = true := by
  have h2 : x.toNat < l.length := by omega
  rw [show (x + 1).toNat = x.toNat + 1 by omega, List.take_succ_eq_append_getElem h2]
  intro y hy
  rcases List.mem_append.1 hy with e | e
  · exact h y e
  · have e1 : y = PrintWords.rd l x := by
      rw [List.mem_singleton.1 e]
      unfold PrintWords.rd
      rw [List.getD, List.getElem?_eq_getElem h2]
      rfl
    rw [e1]
    unfold inR
    exact decide_eq_true ⟨g1, g2, g3⟩
/-- A sorted clause. -/
def srt (l : List Int) : List Int := l.mergeSort fun x y => !(ltOf litCmp) y x
/-- What the loop over neighbours has seen up to a place. -/
def seen (s : List Int) (x : Int) : Prop := 1 ≤ x ∧ x ≤ max 1 s.length ∧ opps (s.take x.toNat) = false
theorem opps_take : ∀ (s : List Int) (n : Nat) (h : n + 1 < s.length), opps (s.take (n + 2)) = (opps (s.take (n + 1)) || decide (s[n] = -s[n + 1]))
  | [], n, h => by simp at h
  | [a], n, h => by simp at h
  | a :: b :: t, 0, _ => by simp [opps]
  | a :: b :: t, n + 1, h => by
    have ih := opps_take (b :: t) n (by simpa using h)
    simp only [List.take_succ_cons, opps] at ih ⊢
    rw [ih]
    simp [Bool.or_assoc]
theorem opps_mono (s : List Int) (n : Nat) (h : opps (s.take n) = true) : opps s = true := by
  induction s generalizing n with
  | nil => simpa using h
  | cons a t ih =>
    cases n with
    | zero => simp [opps] at h
    | succ n =>
      cases t with
      | nil => simp [opps] at h
      | cons b t =>
        cases n with
        | zero => simp [opps] at h
        | succ n =>
          simp only [List.take_succ_cons, opps, Bool.or_eq_true] at h ⊢
          rcases h with h | h
          · exact .inl h
          · exact .inr (ih (n + 1) (by simpa using h))
theorem rd_at {l : List Int} {x : Int} (h0 : 0 ≤ x) (h1 : x < (l.length : Int)) : PrintWords.rd l x = l[x.toNat]'(by omega) := by
  have h : x.toNat < l.length := by omega
  unfold PrintWords.rd
  rw [List.getD, List.getElem?_eq_getElem h]
  rfl
theorem opp_wrap {s : List Int} (hs : ∀ y ∈ s, inR y = true) {x : Int} (h0 : 0 ≤ x) (h1 : x < (s.length : Int)) : wrap64 (-(PrintWords.rd s x)) = -(PrintWords.rd s x) := by
  have := of_decide_eq_true (hs _ (rd_mem s x h0 h1))
  unfold wrap64
  omega
theorem opps_step {s : List Int} {x y : Int} (h1 : 1 ≤ x) (h2 : x < (s.length : Int)) (hy : y = x - 1) : opps (s.take (x + 1).toNat) = (opps (s.take x.toNat) || decide (PrintWords.rd s y = -(PrintWords.rd s x))) := by
  subst hy
  obtain ⟨n, hn⟩ : ∃ n : Nat, x = n + 1 := ⟨(x - 1).toNat, by omega⟩
  subst hn
  rw [rd_at (by omega) h2, rd_at (by omega) (by omega)]
  have e1 : ((n : Int) + 1 + 1).toNat = n + 2 := by omega
  have e2 : ((n : Int) + 1).toNat = n + 1 := by omega
  have e3 : ((n : Int) + 1 - 1).toNat = n := by omega
  simp only [e1, e2, e3]
  exact opps_take s n (by omega)
theorem opps_at {s : List Int} (hs : ∀ y ∈ s, inR y = true) {x y : Int} (hx : seen s x) (h2 : x < (s.length : Int)) (hy : y = x - 1) (hq : PrintWords.rd s y = wrap64 (-(PrintWords.rd s x))) : opps s = true := by
  refine opps_mono s (x + 1).toNat ?_
  rw [opps_step hx.1 h2 hy, hq, opp_wrap hs (by have := hx.1; omega) h2]
  simp
theorem seen_next {s : List Int} (hs : ∀ y ∈ s, inR y = true) {x y : Int} (hx : seen s x) (h2 : x < (s.length : Int)) (hy : y = x - 1) (hq : ¬ PrintWords.rd s y = wrap64 (-(PrintWords.rd s x))) : seen s (x + 1) := by
  have h1 := hx.1
  refine ⟨by omega, by omega, ?_⟩
  rw [opps_step hx.1 h2 hy, hx.2.2]
  rw [opp_wrap hs (by omega) h2] at hq
  simpa using hq
theorem seen_end {s : List Int} {x : Int} (hx : seen s x) (h2 : ¬ x < (s.length : Int)) : opps s = false := by
  have h := hx.2.2
  rwa [List.take_of_length_le (by omega)] at h
theorem below_drawnN {B : Nat} {w W : World} (h : Below B w W) (n : Nat) : Below B w (W.drewN n) := ⟨h.os, h.tape, h.output, h.size, h.block⟩
theorem srt_facts (l : List Int) {x : Int} (hbig : l.length ≤ 17592186044416) (h0 : 0 ≤ x) (h1 : x ≤ l.length) (h2 : ¬ x < (l.length : Int)) (h3 : ∀ y ∈ l.take x.toNat, inR y = true) :
    Aside0 ((compact (l.mergeSort fun x y => !(ltOf litCmp) y x)).length ≤ 17592186044416 ∧ (∀ y ∈ compact (l.mergeSort fun x y => !(ltOf litCmp) y x), inR y = true) ∧ nrm l = if opps (compact (l.mergeSort fun x y => !(ltOf litCmp) y x)) then ([], false) else (compact (l.mergeSort fun x y => !(ltOf litCmp) y x), true)) := by
  have hl : l.all inR = true := by
    rw [List.take_of_length_le (by omega)] at h3
    exact List.all_eq_true.2 h3
  have hin : ∀ y ∈ l, inR y = true := List.all_eq_true.1 hl
  have hm : ∀ y, y ∈ l.mergeSort (fun x y => !(ltOf litCmp) y x) ↔ y ∈ l := fun y => (List.mergeSort_perm l _).mem_iff
  have hcm : ∀ y, y ∈ compact (l.mergeSort fun x y => !(ltOf litCmp) y x) ↔ y ∈ l := fun y => by rw [compact_mem, hm]
  have hso := List.pairwise_mergeSort (le := fun x y => !(ltOf litCmp) y x) (fun a b c h1 h2 => by
    have := litSwo.ntrans c b a
    simp only [Bool.not_eq_true'] at h1 h2 ⊢
    exact this h2 h1) (fun a b => by
    simp only [Bool.or_eq_true, Bool.not_eq_true']
    cases h : ltOf litCmp b a with
    | false => exact .inl rfl
    | true =>
      cases h2 : ltOf litCmp a b with
      | false => exact .inr rfl
      | true => have h3 := litSwo.trans a b a h2 h; rw [litSwo.irrefl] at h3; cases h3) l
  have hp : (l.mergeSort fun x y => !(ltOf litCmp) y x).Pairwise fun x y => LitLt x y ∨ x = y := by
    refine List.Pairwise.imp_of_mem (fun {a b} ha hb h => ?_) hso
    have ia := hin a ((hm a).1 ha)
    have ib := hin b ((hm b).1 hb)
    simp only [Bool.not_eq_true'] at h
    rw [litLt, decide_eq_false_iff_not, varOf_in ia, varOf_in ib] at h
    unfold LitLt
    omega
  refine ⟨⟨?_, fun y hy => hin y ((hcm y).1 hy), nrm_sorted hl hm hp⟩⟩
  have h1 := compact_length_le (l.mergeSort fun x y => !(ltOf litCmp) y x)
  rw [List.length_mergeSort] at h1
  omega
set_option maxHeartbeats 4000000 in
set_option maxRecDepth 100000 in
theorem Normal_calls (A : Option Addr) (c : Nat) (l : List Int) (w : World) (hr : kI.C w A l.length l) (hc : l.length ≤ c) (hl : l.length ≤ 17592186044416) :
    Calls Tryz.prog 12 #[.slice A l.length c] w fun e w' => ∃ v, e = .returned (.tuple #[v, .bool (nrm l).2]) ∧ kI.R 3 w' w.heap.size (fun _ => True) v (nrm l).1 ∧ Below w.heap.size w w' := by
  have HR := Aside0.mk hr
  have HL := Aside0.mk hl
  clear hr hl hc
  go_enter Tryz.func12, Tryz.ntmps12
  go_wp2
  go_loop [10] (fun v10 => ∃ x : Int, v10 = .int .i64 x ∧ Aside0 (0 ≤ x ∧ x ≤ l.length ∧ ∀ y ∈ l.take x.toNat, inR y = true)) (fun v10 => l.length - (intOf v10).toNat)
  case atStart => exact ⟨0, rfl, ⟨by omega, by omega, by simp⟩⟩
  case round =>
    obtain ⟨x, rfl, HX⟩ := hrel
    have h0 : decide (0 ≤ x) = true := decide_eq_true HX.out.1
    by_cases c1 : x < (l.length : Int)
    · have h1 : decide (x < (l.length : Int)) = true := decide_eq_true c1
      have p1 : 0 ≤ (x : Int) := HX.out.1
      obtain ⟨ad, e1, hx⟩ := Kd.at_int HR.out x p1 c1
      cases e1
      have C1 := Aside0.mk c1
      clear c1
      replace p1 := eq_true p1
      have q1 : (x < (l.length : Int)) = True := eq_true C1.out
      go_wp2
      · have hn := nrm_bad HX.out.1 C1.out (.inl (by assumption))
        rw [hn]
        go_ret2
        exact ⟨_, rfl, Kd.R_nil _ _ _ _ _, Below.refl _ _⟩
      · have hn := nrm_bad HX.out.1 C1.out (.inr (.inr (by rename_i h _; rcases h with h | h; (exfalso; simp_all; omega); exact h)))
        rw [hn]
        go_ret2
        exact ⟨_, rfl, Kd.R_nil _ _ _ _ _, Below.refl _ _⟩
      · go_round
        case rel =>
          have hw : wrap64 (x + 1) = x + 1 := by have := C1.out; have := HL.out; have := HX.out.1; unfold wrap64; omega
          refine ⟨x + 1, by rw [hw], ⟨?_, ?_, ?_⟩⟩
          · have := HX.out.1; omega
          · have := C1.out; omega
          · rename_i hq1 hq2 hq3
            refine take_in HX.out.1 C1.out HX.out.2.2 hq1 hq2 ?_
            exact hq3.2
        case measure =>
          have hw : wrap64 (x + 1) = x + 1 := by have := C1.out; have := HL.out; have := HX.out.1; unfold wrap64; omega
          have := C1.out; have := HX.out.1
          simp [intOf, hw]; omega
      · have hn := nrm_bad HX.out.1 C1.out (.inr (.inl (by assumption)))
        rw [hn]
        go_ret2
        exact ⟨_, rfl, Kd.R_nil _ _ _ _ _, Below.refl _ _⟩
    · go_wp2_with (first
        | (go_at_call 41; refine (clone _ _ l _ HR.out HL.out).mono ?_; rintro e w1 ⟨v1, rfl, hv, hb⟩; have HV1 := Aside0.mk hv; have HB1 := Aside0.mk hb; clear hv hb)
        | (go_at_call 42; refine (sortTotal litCmp litSwo litTot 43 litCmp_enters litCmp_calls v1 l _ _ _ HV1.out HL.out).mono ?_; rintro e w2 ⟨rfl, hv, hg⟩; have HV2 := Aside0.mk hv; have HB2 := Aside0.mk (HB1.out.grown hg HB1.out.size (fun k hk => Kd.R_base HV1.out k hk)); clear hv hg)
        | (go_at_call 47; refine (compactC v1 _ _ _ _ HV2.out (by rw [List.length_mergeSort]; exact HL.out)).mono ?_; rintro e w3 ⟨v3, rfl, hv, hg⟩; have HV3 := Aside0.mk hv; have HG3 := Aside0.mk hg; clear hv hg))
      have HS := srt_facts l HL.out HX.out.1 HX.out.2.1 (by omega) HX.out.2.2
      clear HX h0 HB1
      obtain ⟨A3, c3, e3⟩ := Kd.R_slice HV3.out
      subst e3
      have HB3 := Aside0.mk (HB2.out.grown HG3.out HB2.out.size (fun k hk => Kd.R_base HV2.out k hk))
      generalize hs : compact (l.mergeSort fun x y => !(ltOf litCmp) y x) = s at HV3 HS ⊢
      clear hs HV1 HV2 HB2 HG3 c1
      go_loopw [7] (fun v7 wr => ∃ x : Int, v7 = .int .i64 x ∧ Aside0 (seen s x) ∧ Drawn0 w3 wr) (fun v7 _ => s.length - (intOf v7).toNat)
      case atStart => exact ⟨1, rfl, ⟨⟨by omega, by omega, by cases s <;> simp [opps]⟩⟩, Drawn0.refl _⟩
      case round =>
        obtain ⟨x, rfl, HX, ⟨⟨nd, rfl⟩⟩⟩ := hrel
        by_cases c4 : x < (s.length : Int)
        · have g1 := HX.out.1
          have hlen : s.length ≤ 17592186044416 := HS.out.1
          have h4 : decide (x < (s.length : Int)) = true := decide_eq_true c4
          obtain ⟨y, hy⟩ : ∃ y, y = x - 1 := ⟨_, rfl⟩
          obtain ⟨ad1, e1, hx1⟩ := Kd.at_int (Kd.R_reads' HV3.out).2.2 y (by omega) (by omega)
          cases e1
          obtain ⟨ad2, e2, hx2⟩ := Kd.at_int (Kd.R_reads' HV3.out).2.2 x (by omega) (by omega)
          cases e2
          have hw1 : IntKind.i64.wrap (x - 1) = y := (IntWalk.i64_in _ (by omega)).trans hy.symm
          have hw2 : wrap64 (x - 1) = y := by unfold wrap64; omega
          have p1 : (0 ≤ y) = True := eq_true (by omega)
          have q1 : (y < (s.length : Int)) = True := eq_true (by omega)
          have p2 : (0 ≤ x) = True := eq_true (by omega)
          have q2 : (x < (s.length : Int)) = True := eq_true (by omega)
          have C4 := Aside0.mk c4
          have G1 := Aside0.mk g1
          have GL := Aside0.mk hlen
          have HY := Aside0.mk hy
          clear c4 g1 hlen hy
          by_cases hq : PrintWords.rd s y = wrap64 (-(PrintWords.rd s x))
          · have hqb : (PrintWords.rd s y == wrap64 (-(PrintWords.rd s x))) = true := beq_iff_eq.mpr hq
            have HQ := Aside0.mk hq
            clear hq
            go_wp2
            go_quiet (fail)
            go_wp2
            have hn : nrm l = ([], false) := by
              rw [HS.out.2.2, if_pos (opps_at HS.out.2.1 HX.out C4.out HY.out HQ.out)]
            rw [hn]
            go_ret2
            exact ⟨_, rfl, Kd.R_nil _ _ _ _ _, below_drawnN (below_drawnN HB3.out _) _⟩
          · have hqb : (PrintWords.rd s y == wrap64 (-(PrintWords.rd s x))) = false := beq_eq_false_iff_ne.mpr hq
            have HQ := Aside0.mk hq
            clear hq
            go_wp2
            go_quiet (fail)
            go_wp2
            go_roundw
            case rel =>
              have hw : wrap64 (x + 1) = x + 1 := by have := C4.out; have := GL.out; have := G1.out; unfold wrap64; omega
              exact ⟨x + 1, by rw [hw], ⟨seen_next HS.out.2.1 HX.out C4.out HY.out HQ.out⟩, ⟨⟨_, rfl⟩⟩⟩
            case measure =>
              have hw : wrap64 (x + 1) = x + 1 := by have := C4.out; have := GL.out; have := G1.out; unfold wrap64; omega
              have := C4.out; have := G1.out
              simp [intOf, hw]; omega
        · have h4 : decide (x < (s.length : Int)) = false := decide_eq_false c4
          have hn : nrm l = (s, true) := by
            rw [HS.out.2.2, if_neg (by rw [seen_end HX.out c4]; simp)]
          have C4 := Aside0.mk c4
          have HN := Aside0.mk hn
          clear c4 hn
          go_wp2
          rw [HN.out]
          go_ret2
          exact ⟨_, rfl, HV3.out, below_drawnN HB3.out _⟩
end Go.Proofs.YteaohgebocbehaaGreatDoor.Hand
end
section
/- When a formula is valid, as a plain test on lists; the printed functions of cnf.normal and cnf.Valid tell it. Condition: lists shorter than 2^62. -/
set_option linter.unusedVariables false
set_option linter.unusedSimpArgs false
namespace Go.Proofs.YteaohgebocbehaaGreatDoor.Plain
open Go.RowKit Go.Proofs.YteaohgebocbehaaGreatDoorW.PrintWords Go.Proofs.YteaohgebocbehaaGreatDoorW.PrintLast Go.Proofs.YteaohgebocbehaaGreatDoorW.PrintMore Go.Proofs.YteaohgebocbehaaGreatDoor.XA

/-- A clause behind a variable. -/
def nOk (n : Int) : Nat → List Int → Bool
  | _, [] => true
  | last, l :: t => decide (-n ≤ l ∧ l ≤ n ∧ last < l.natAbs) && nOk n l.natAbs t
/-- A normal clause of variables up to n. -/
def clauseOk (n : Int) (c : List Int) : Bool := nOk n 0 c
def validC (n : Int) (cl : List (List Int)) : Bool := decide (0 ≤ n ∧ n ≤ 65536 ∧ (cl.length : Int) ≤ 262144) && cl.all (clauseOk n)

theorem nOk_iff (n : Int) : ∀ (c : List Int) (last : Nat), nOk n last c = true ↔ Inc c ∧ ∀ l ∈ c, -n ≤ l ∧ l ≤ n ∧ last < l.natAbs
  | [], last => by simp [nOk, Inc]
  | l :: t, last => by
    simp only [nOk, Bool.and_eq_true, decide_eq_true_eq, nOk_iff n t, Inc, List.pairwise_cons, List.mem_cons, forall_eq_or_imp]
    constructor
    · rintro ⟨h1, h2, h3⟩
      exact ⟨⟨fun a ha => (h3 a ha).2.2, h2⟩, h1, fun a ha => ⟨(h3 a ha).1, (h3 a ha).2.1, by have := (h3 a ha).2.2; omega⟩⟩
    · rintro ⟨⟨h1, h2⟩, h3, h4⟩
      exact ⟨h3, h2, fun a ha => ⟨(h4 a ha).1, (h4 a ha).2.1, h1 a ha⟩⟩
theorem clauseOk_iff (n : Int) (c : List Int) : clauseOk n c = true ↔ Inc c ∧ ∀ l ∈ c, l ≠ 0 ∧ -n ≤ l ∧ l ≤ n := by
  unfold clauseOk
  rw [nOk_iff]
  constructor
  · rintro ⟨h1, h2⟩; exact ⟨h1, fun l hl => by have := h2 l hl; omega⟩
  · rintro ⟨h1, h2⟩; exact ⟨h1, fun l hl => by have := h2 l hl; omega⟩
theorem validC_iff (n : Int) (cl : List (List Int)) : validC n cl = true ↔ (0 ≤ n ∧ n ≤ 65536 ∧ (cl.length : Int) ≤ 262144) ∧ ∀ c ∈ cl, clauseOk n c = true := by
  unfold validC
  rw [Bool.and_eq_true, decide_eq_true_eq, List.all_eq_true]

theorem nOk_length (n : Int) : ∀ (c : List Int) (last : Nat), (last : Int) ≤ n → nOk n last c = true → (c.length : Int) + last ≤ n
  | [], last, h0, _ => by simpa using h0
  | l :: t, last, h0, h => by
    simp only [nOk, Bool.and_eq_true, decide_eq_true_eq] at h
    have := nOk_length n t l.natAbs (by omega) h.2
    simp only [List.length_cons]
    omega
theorem clauseOk_length {n : Int} {c : List Int} (h0 : 0 ≤ n) (h : clauseOk n c = true) : (c.length : Int) ≤ n := by
  have := nOk_length n c 0 (by omega) h
  omega
theorem rd_get {l : List Int} {x : Int} (h0 : 0 ≤ x) (h1 : x < (l.length : Int)) : rd l x = l[x.toNat]'(by omega) := by
  have h : x.toNat < l.length := by omega
  unfold rd
  rw [List.getD, List.getElem?_eq_getElem h]
  rfl
theorem drop_rd {l : List Int} {x : Int} (h0 : 0 ≤ x) (h1 : x < (l.length : Int)) : l.drop x.toNat = rd l x :: l.drop (x + 1).toNat := by
  rw [rd_get h0 h1, show (x + 1).toNat = x.toNat + 1 by omega]
  exact List.drop_eq_getElem_cons (by omega)
theorem rdL_get {l : List (List Int)} {x : Int} (h0 : 0 ≤ x) (h1 : x < (l.length : Int)) : rd_L1 l x = l[x.toNat]'(by omega) := by
  have h : x.toNat < l.length := by omega
  unfold rd_L1
  rw [List.getD, List.getElem?_eq_getElem h]
  rfl
theorem drop_rdL {l : List (List Int)} {x : Int} (h0 : 0 ≤ x) (h1 : x < (l.length : Int)) : l.drop x.toNat = rd_L1 l x :: l.drop (x + 1).toNat := by
  rw [rdL_get h0 h1, show (x + 1).toNat = x.toNat + 1 by omega]
  exact List.drop_eq_getElem_cons (by omega)
theorem w64 {x : Int} (h0 : -9223372036854775808 ≤ x) (h1 : x ≤ 9223372036854775807) : wrap64 x = x := by unfold wrap64; omega

theorem variable_f {x : Int} (h0 : -9223372036854775807 ≤ x) (h1 : x ≤ 9223372036854775807) : cnf_variable.f x = some (x.natAbs : Int) := by
  unfold cnf_variable.f mx
  rw [w64 (by omega) (by omega)]
  congr 1
  split <;> omega

theorem normal_ev (n : Int) (hn0 : 0 ≤ n) (hn : n ≤ 4611686018427387904) (c : List Int) (hc : c.length ≤ 4611686018427387904) :
    ∀ (d : Nat) (x : Int) (last : Nat), 0 ≤ x → x ≤ c.length → (c.length : Int) - x = d → Ev (fun k => cnf_normal.l0 k n last c (c.length : Int) x) (nOk n last (c.drop x.toNat)) := by
  intro d
  induction d with
  | zero =>
    intro x last h0 h1 hd
    rw [List.drop_eq_nil_of_le (by omega)]
    exact Ev.step (f := fun _ => some true) (fun k => by simp only [cnf_normal.l0]; rw [if_neg (by omega)]) (Ev.now _)
  | succ d ih =>
    intro x last h0 h1 hd
    have hlt : x < (c.length : Int) := by omega
    rw [drop_rd h0 hlt]
    simp only [nOk]
    have hw : wrap64 (-n) = -n := w64 (by omega) (by omega)
    have hw2 : wrap64 (x + 1) = x + 1 := w64 (by omega) (by omega)
    by_cases h2 : rd c x < -n
    · rw [decide_eq_false (by omega), Bool.false_and]
      refine Ev.step (f := fun k => cnf_normal.j1 k n (rd c x) c (c.length : Int) x true) (fun k => by simp only [cnf_normal.l0]; rw [if_pos hlt, if_pos h0, if_pos hlt, if_pos (by rw [hw]; exact h2)]) ?_
      exact Ev.step (f := fun _ => some false) (fun k => by simp only [cnf_normal.j1]; rfl) (Ev.now _)
    · by_cases h3 : rd c x > n
      · rw [decide_eq_false (by omega), Bool.false_and]
        refine Ev.step (f := fun k => cnf_normal.j1 k n (rd c x) c (c.length : Int) x true) (fun k => by simp only [cnf_normal.l0]; rw [if_pos hlt, if_pos h0, if_pos hlt, if_neg (by rw [hw]; exact h2), if_pos h3]) ?_
        exact Ev.step (f := fun _ => some false) (fun k => by simp only [cnf_normal.j1]; rfl) (Ev.now _)
      · have hv := variable_f (x := rd c x) (by omega) (by omega)
        by_cases h4 : ((rd c x).natAbs : Int) ≤ last
        · rw [decide_eq_false (by omega), Bool.false_and]
          refine Ev.step (f := fun k => cnf_normal.j1 k n (rd c x) c (c.length : Int) x true) (fun k => by simp only [cnf_normal.l0]; rw [if_pos hlt, if_pos h0, if_pos hlt, if_neg (by rw [hw]; exact h2), if_neg h3, hv]; simp only [Option.bind_some]; rw [decide_eq_true h4]) ?_
          exact Ev.step (f := fun _ => some false) (fun k => by simp only [cnf_normal.j1]; rfl) (Ev.now _)
        · rw [decide_eq_true (show -n ≤ rd c x ∧ rd c x ≤ n ∧ last < (rd c x).natAbs by omega), Bool.true_and]
          refine Ev.step (f := fun k => cnf_normal.j1 k n (rd c x) c (c.length : Int) x false) (fun k => by simp only [cnf_normal.l0]; rw [if_pos hlt, if_pos h0, if_pos hlt, if_neg (by rw [hw]; exact h2), if_neg h3, hv]; simp only [Option.bind_some]; rw [decide_eq_false h4]) ?_
          exact Ev.step (f := fun k => cnf_normal.l0 k n (rd c x).natAbs c (c.length : Int) (x + 1)) (fun k => by simp only [cnf_normal.j1]; rw [hv]; simp only [Option.bind_some, Bool.false_eq_true, if_false, hw2]) (ih (x + 1) _ (by omega) (by omega) (by omega))
theorem normal_f (n : Int) (hn0 : 0 ≤ n) (hn : n ≤ 4611686018427387904) (c : List Int) (hc : c.length ≤ 4611686018427387904) : Ev (fun k => cnf_normal.f k c n) (clauseOk n c) := by
  have h := normal_ev n hn0 hn c hc c.length 0 0 (by omega) (by omega) (by omega)
  exact h
theorem valid_ev (n : Int) (hn0 : 0 ≤ n) (hn : n ≤ 65536) (cl : List (List Int)) (hc : ∀ c ∈ cl, c.length ≤ 4611686018427387904) (hl : cl.length ≤ 4611686018427387904) :
    ∀ (d : Nat) (x : Int), 0 ≤ x → x ≤ cl.length → (cl.length : Int) - x = d → Ev (fun k => cnf_Valid.l0 k cl (cl.length : Int) x n cl) ((cl.drop x.toNat).all (clauseOk n)) := by
  intro d
  induction d with
  | zero =>
    intro x h0 h1 hd
    rw [List.drop_eq_nil_of_le (by omega)]
    exact Ev.step (f := fun _ => some true) (fun k => by simp only [cnf_Valid.l0]; rw [if_neg (by omega)]) (Ev.now _)
  | succ d ih =>
    intro x h0 h1 hd
    have hlt : x < (cl.length : Int) := by omega
    have hw2 : wrap64 (x + 1) = x + 1 := w64 (by omega) (by omega)
    rw [drop_rdL h0 hlt, List.all_cons]
    have hm : rd_L1 cl x ∈ cl := by rw [rdL_get h0 hlt]; exact List.getElem_mem _
    have hf := normal_f n hn0 (by omega) (rd_L1 cl x) (hc _ hm)
    refine Ev.step (f := fun k => (cnf_normal.f k (rd_L1 cl x) n).bind fun t => if t = true then cnf_Valid.l0 k cl (cl.length : Int) (wrap64 (x + 1)) n cl else some false) (fun k => by simp only [cnf_Valid.l0]; rw [if_pos hlt, if_pos h0, if_pos hlt]) (Ev.bind hf ?_)
    cases hb : clauseOk n (rd_L1 cl x) with
    | false => simpa using Ev.now false
    | true =>
      rw [hw2]
      simpa using ih (x + 1) (by omega) (by omega) (by omega)
theorem valid_f (n : Int) (cl : List (List Int)) (hc : ∀ c ∈ cl, c.length ≤ 4611686018427387904) (hl : cl.length ≤ 4611686018427387904) : Ev (fun k => cnf_Valid.f k n cl) (validC n cl) := by
  unfold validC
  by_cases h1 : n < 0
  · rw [decide_eq_false (by omega), Bool.false_and]
    refine Ev.congr (f := fun k => cnf_Valid.j0 k true n cl) (fun k => by unfold cnf_Valid.f; rw [if_pos h1]) ?_
    exact Ev.step (f := fun _ => some false) (fun k => by simp only [cnf_Valid.j0]; rfl) (Ev.now _)
  · by_cases h2 : n > 65536
    · rw [decide_eq_false (by omega), Bool.false_and]
      refine Ev.congr (f := fun k => cnf_Valid.j0 k true n cl) (fun k => by unfold cnf_Valid.f; rw [if_neg h1, if_pos h2]) ?_
      exact Ev.step (f := fun _ => some false) (fun k => by simp only [cnf_Valid.j0]; rfl) (Ev.now _)
    · by_cases h3 : (cl.length : Int) > 262144
      · rw [decide_eq_false (by omega), Bool.false_and]
        refine Ev.congr (f := fun k => cnf_Valid.j0 k true n cl) (fun k => by unfold cnf_Valid.f; rw [if_neg h1, if_neg h2, decide_eq_true h3]) ?_
        exact Ev.step (f := fun _ => some false) (fun k => by simp only [cnf_Valid.j0]; rfl) (Ev.now _)
      · rw [decide_eq_true (by omega), Bool.true_and]
        refine Ev.congr (f := fun k => cnf_Valid.j0 k false n cl) (fun k => by unfold cnf_Valid.f; rw [if_neg h1, if_neg h2, decide_eq_false h3]) ?_
        refine Ev.step (f := fun k => cnf_Valid.l0 k cl (cl.length : Int) 0 n cl) (fun k => by simp only [cnf_Valid.j0]; rfl) ?_
        exact valid_ev n (by omega) (by omega) cl hc hl cl.length 0 (by omega) (by omega) (by omega)
end Go.Proofs.YteaohgebocbehaaGreatDoor.Plain
end
section
/- cnf.Valid and cnf.Holds at any formula of clauses of at most 2^44 literals: the walks. -/
set_option linter.unusedVariables false
set_option linter.unusedSimpArgs false
namespace Go.Proofs.YteaohgebocbehaaGreatDoor.Hand
open Go.RowKit Go.Lib Go.Shelf Go.Proofs.YteaohgebocbehaaGreatDoorW Go.Proofs.YteaohgebocbehaaGreatDoorW.PrintWords Go.Proofs.YteaohgebocbehaaGreatDoorW.PrintLast Go.Proofs.YteaohgebocbehaaGreatDoorW.PrintMore Go.Proofs.YteaohgebocbehaaGreatDoor.Plain Go.Proofs.YteaohgebocbehaaGreatDoor.XA
attribute [local go_sem] max2_int min2_int max_two min_two max_three min_three max_four min_four
abbrev kL : Kd (List Int) := Kd.slice 3 kI
/-- No clause is great. -/
def Fine (cl : List (List Int)) : Prop := cl.length ≤ 17592186044416 ∧ ∀ c ∈ cl, c.length ≤ 17592186044416

theorem Valid_calls (n : Int) (A : Option Addr) (c : Nat) (cl : List (List Int)) (w : World) (hr : kL.C w A cl.length cl) (hc : cl.length ≤ c) (hf : Fine cl) :
    Calls Tryz.prog 15 #[.agg #[.int .i64 n, .slice A cl.length c]] w fun e w' => e = .returned (.bool (validC n cl)) ∧ Below w.heap.size w w' := by
  obtain ⟨k, h⟩ := (valid_f n cl (fun c hc => by have := hf.2 c hc; omega) (by have := hf.1; omega)).rounds
  exact cnf_Valid.calls k n A c cl (validC n cl) w hr hc h

/-- The index of a literal's variable in a model. -/
def mAt (m : List Int) (x : Int) : Bool := decide (PrintWords.rd m ((x.natAbs : Int) - 1) = x)
theorem varOf_eq {x : Int} (h0 : -9223372036854775807 ≤ x) (h1 : x ≤ 9223372036854775807) : varOf x = x.natAbs := by
  have : wrap64 (-x) = -x := by unfold wrap64; omega
  unfold varOf
  rw [this]
  omega
set_option maxHeartbeats 4000000 in
set_option maxRecDepth 100000 in
theorem holds1_calls (b : Nat) (A : Option Addr) (c : Nat) (m : List Int) (x : Int) (W : World) (hb : W.heap[b]? = some (.cells #[.slice A m.length c] 25 (0, 0))) (hr : kI.C W A m.length m) (hx : 1 ≤ x.natAbs) (hx2 : x.natAbs ≤ m.length) (hl : m.length ≤ 17592186044416) :
    Calls Tryz.prog 49 #[.int .i64 x, .pointer (some ⟨b, 0, none⟩)] W fun e w' => e = .returned (.bool (mAt m x)) ∧ ∃ q, w' = W.drewN q := by
  have hv := varOf_eq (x := x) (by omega) (by omega)
  obtain ⟨n, hn⟩ : ∃ n : Int, n = x.natAbs := ⟨_, rfl⟩
  obtain ⟨y, hy⟩ : ∃ y : Int, y = n - 1 := ⟨_, rfl⟩
  have hcell : W.cell? ⟨b, 0, none⟩ = some (.slice A m.length c) := (blk_cell hb 0).trans rfl
  obtain ⟨ad, e, hx3⟩ := Kd.at_int hr y (by omega) (by omega)
  cases e
  have hcall : ∀ W', Calls Tryz.prog 46 #[.int .i64 x] W' fun e w' => e = .returned (.int .i64 n) ∧ w' = W' := fun W' => by
    have h := variable_calls x W'
    rwa [hv, ← hn] at h
  have hw1 : IntKind.i64.wrap (n - 1) = y := (IntWalk.i64_in _ (by omega)).trans hy.symm
  have hw2 : wrap64 (n - 1) = y := by unfold wrap64; omega
  have p1 : (0 ≤ y) = True := eq_true (by omega)
  have q1 : (y < (m.length : Int)) = True := eq_true (by omega)
  have hm : mAt m x = decide (PrintWords.rd m y = x) := by unfold mAt; rw [← hn, ← hy]
  have HM := Aside0.mk hm
  clear hn hy hv hb hr hx hx2 hl hm
  go_enter Tryz.func49, Tryz.ntmps49
  go_wp2
  go_quiet ((go_at_call 46; exact Calls.quiet_of_same (hcall _)))
  go_wp2
  go_ret
  refine ⟨?_, _, rfl⟩
  rw [HM.out]
  rfl

/-- A model's literals, from a place on. -/
def mOk : Nat → List Int → Bool
  | _, [] => true
  | i, x :: t => decide (x = i + 1 ∨ x = -((i : Int) + 1)) && mOk (i + 1) t
def holdsC (n : Int) (cl : List (List Int)) (m : List Int) : Bool := validC n cl && (decide ((m.length : Int) = n) && (mOk 0 m && cl.all fun c => c.any (mAt m)))

theorem mOk_step {m : List Int} {x a d : Int} (h0 : 0 ≤ x) (h1 : x < (m.length : Int)) (ha : a = x + 1) (hd : d = -x - 1) : mOk x.toNat (m.drop x.toNat) = (decide (PrintWords.rd m x = a ∨ PrintWords.rd m x = d) && mOk a.toNat (m.drop a.toNat)) := by
  subst ha hd
  rw [drop_rd h0 h1]
  simp only [mOk]
  have e : (x + 1).toNat = x.toNat + 1 := by omega
  rw [e]
  congr 1
  apply decide_eq_decide.2
  have : ((x.toNat : Nat) : Int) = x := by omega
  rw [this]
  constructor <;> (intro h; omega)
theorem mOk_end {m : List Int} {x : Int} (h1 : ¬ x < (m.length : Int)) : mOk x.toNat (m.drop x.toNat) = true := by
  rw [List.drop_eq_nil_of_le (by omega)]
  rfl
/-- A literal of a model of n variables; another number is told as one. -/
def litIn (n : Nat) (x : Int) : Int := if 1 ≤ x.natAbs ∧ x.natAbs ≤ n then x else 1
theorem litIn_ok {n : Nat} (h : 0 < n) (x : Int) : 1 ≤ (litIn n x).natAbs ∧ (litIn n x).natAbs ≤ n := by
  unfold litIn
  split
  · assumption
  · omega
theorem litIn_map {n : Nat} {c : List Int} (h : clauseOk n c = true) : c = c.map (litIn n) := by
  have h := ((clauseOk_iff n c).1 h).2
  rw [List.map_congr_left (g := id) (fun x hx => by
    have := h x hx
    unfold litIn
    rw [if_pos (by omega)]
    rfl)]
  simp
theorem litIn_any {n : Nat} {c : List Int} (h : clauseOk n c = true) (p : Int → Bool) : c.any (fun x => p (litIn n x)) = c.any p := by
  conv => rhs; rw [litIn_map h]
  rw [List.any_map]
  rfl
/-- The two boxes of the call. -/
structure HSt (w W : World) (g2 g3 : Nat) (v2 : Array Value) (v3 : Value) : Prop where
  b2 : W.heap[g2]? = some (.cells v2 24 (0, 0))
  b3 : W.heap[g3]? = some (.cells #[v3] 25 (0, 0))
  below : Below w.heap.size w W
theorem HSt.later {w W W' : World} {g2 g3 : Nat} {v2 : Array Value} {v3 : Value} (h : HSt w W g2 g3 v2 v3) (hb : Below W.heap.size W W') : HSt w W' g2 g3 v2 v3 :=
  ⟨blk_below h.b2 hb, blk_below h.b3 hb, below_step h.below hb⟩
theorem holds1_enters : ∀ args w, (callFunc 49 args).run Tryz.prog w = .ok (.enter 49 args) w := Go.Proofs.enters_of Tryz.func49 (by kernel_rfl) rfl
set_option maxHeartbeats 4000000 in
set_option maxRecDepth 100000 in
theorem Holds_calls (n : Int) (A : Option Addr) (c : Nat) (cl : List (List Int)) (Am : Option Addr) (cm : Nat) (m : List Int) (w : World) (hr : kL.C w A cl.length cl) (hc : cl.length ≤ c) (hf : Fine cl) (hm : kI.C w Am m.length m) (hml : m.length ≤ 17592186044416) :
    Calls Tryz.prog 17 #[.agg #[.int .i64 n, .slice A cl.length c], .slice Am m.length cm] w fun e w' => e = .returned (.bool (holdsC n cl m)) ∧ Below w.heap.size w w' := by
  have hu24 := Tryz.underlying24
  have HR := Aside0.mk hr
  have HC := Aside0.mk hc
  have HF := Aside0.mk hf
  have HM := Aside0.mk hm
  have HL := Aside0.mk hml
  clear hr hc hf hm hml
  have hspec : Aside0 (holdsC n cl m = (validC n cl && (decide ((m.length : Int) = n) && (mOk 0 m && cl.all fun c => c.any (mAt m))))) := ⟨rfl⟩
  go_enter Tryz.func17, Tryz.ntmps17
  go_upto_region 1 with (first
    | ((with_reducible refine gate_dst (N := 2) rfl ?_); refine box_event ?hg (N := 2) ?hd (cs := #[.int .i64 n, .slice A cl.length c]) (t := 24) ?hr ?_; (case hd => rfl); (case hg => rfl); (case hr => first | (go_simp; done) | (go_simp; rfl)); intro g2 hg_ w2 h1_ h2_; have BK2 := Aside0.mk h1_; have HB2 := Aside0.mk h2_; have GEg2 := Aside0.mk hg_; clear h1_ h2_ hg_)
    | ((with_reducible refine gate_dst (N := 3) rfl ?_); refine box_event ?hg (N := 3) ?hd (cs := #[.slice Am m.length cm]) (t := 25) ?hr ?_; (case hd => rfl); (case hg => rfl); (case hr => first | (go_simp; done) | (go_simp; rfl)); intro g3 hg_ w3 h1_ h2_; have BK3 := Aside0.mk h1_; have HB3 := Aside0.mk h2_; have GEg3 := Aside0.mk hg_; clear h1_ h2_ hg_))
  have HS : Aside0 (HSt w w3 g2 g3 #[.int .i64 n, .slice A cl.length c] (.slice Am m.length cm)) := ⟨⟨blk_below BK2.out HB3.out, BK3.out, below_step HB2.out HB3.out⟩⟩
  clear BK2 BK3 HB2 HB3 GEg2 GEg3
  have c20 : w3.cell? ⟨g2, 0, none⟩ = some (.int .i64 n) := (blk_cell HS.out.b2 0).trans rfl
  have c21 : w3.cell? ⟨g2, 1, none⟩ = some (.slice A cl.length c) := (blk_cell HS.out.b2 1).trans rfl
  have hvc : ∀ v, validC n cl = v → Calls Tryz.prog 15 #[.agg #[.int .i64 n, .slice A cl.length c]] w3 fun e w' => e = .returned (.bool v) ∧ (w'.cell? ⟨g2, 0, none⟩ = some (.int .i64 n) ∧ w'.cell? ⟨g2, 1, none⟩ = some (.slice A cl.length c) ∧ w'.cell? ⟨g3, 0, none⟩ = some (.slice Am m.length cm)) ∧ Aside0 (HSt w w' g2 g3 #[.int .i64 n, .slice A cl.length c] (.slice Am m.length cm)) := by
    rintro v rfl
    refine (Valid_calls n A c cl _ (Kd.C_below HR.out HS.out.below) HC.out HF.out).mono ?_
    rintro e w4 ⟨rfl, hb⟩
    have h := HS.out.later hb
    exact ⟨rfl, ⟨(blk_cell h.b2 0).trans rfl, (blk_cell h.b2 1).trans rfl, (blk_cell h.b3 0).trans rfl⟩, ⟨h⟩⟩
  have HV := Aside0.mk hvc
  clear hvc
  by_cases hv : validC n cl = true
  · have HV1 := HV.out true hv
    have HVT := Aside0.mk hv
    clear HV hv
    by_cases hn : (m.length : Int) = n
    · have hnb : ((m.length : Int) != n) = false := bne_eq_false_iff_eq.mpr hn
      have HN := Aside0.mk hn
      clear hn
      go_wp2_with (go_at_call 15; refine HV1.mono ?_; rintro e w4 ⟨rfl, ⟨d0, d1, d2⟩, HS4⟩)
      go_loop [21] (fun v21 => ∃ x : Int, v21 = .int .i64 x ∧ Aside0 (0 ≤ x ∧ x ≤ m.length ∧ mOk 0 m = mOk x.toNat (m.drop x.toNat))) (fun v21 => m.length - (intOf v21).toNat)
      case atStart => exact ⟨0, rfl, ⟨by omega, by omega, rfl⟩⟩
      case round =>
        obtain ⟨x, rfl, HX⟩ := hrel
        by_cases c1 : x < (m.length : Int)
        · have hlm := HL.out
          have p0 := HX.out.1
          obtain ⟨ad, e1, hx0⟩ := Kd.at_int HM.out x p0 c1
          cases e1
          have hx1 := (HS4.out.below.cell (World.block_lt_of_cell? w _ hx0)).trans hx0
          obtain ⟨a, ha⟩ : ∃ a : Int, a = x + 1 := ⟨_, rfl⟩
          obtain ⟨b, hb⟩ : ∃ b : Int, b = -x := ⟨_, rfl⟩
          obtain ⟨d, hd⟩ : ∃ d : Int, d = b - 1 := ⟨_, rfl⟩
          have ms := mOk_step p0 c1 ha (d := d) (by omega)
          have ka : IntKind.i64.wrap (x + 1) = a := (IntWalk.i64_in _ (by omega)).trans ha.symm
          have kb : IntKind.i64.wrap (-x) = b := (IntWalk.i64_in _ (by omega)).trans hb.symm
          have kd : IntKind.i64.wrap (b - 1) = d := (IntWalk.i64_in _ (by omega)).trans hd.symm
          have ka2 : wrap64 (x + 1) = a := by unfold wrap64; omega
          have kb2 : wrap64 (-x) = b := by unfold wrap64; omega
          have kd2 : wrap64 (b - 1) = d := by unfold wrap64; omega
          have h1 : decide (x < (m.length : Int)) = true := decide_eq_true c1
          have p1 : (0 ≤ x) = True := eq_true p0
          have q1 : (x < (m.length : Int)) = True := eq_true c1
          have HA := Aside0.mk ha
          have MS := Aside0.mk ms
          have C1 := Aside0.mk c1
          clear ha hb hd ms c1 hx0 p0 hlm
          by_cases t1 : PrintWords.rd m x = a
          · have t1b : (PrintWords.rd m x != a) = false := bne_eq_false_iff_eq.mpr t1
            have T1 := Aside0.mk t1
            clear t1
            go_wp2
            go_round
            case rel => exact ⟨a, rfl, ⟨by have := HA.out; have := HX.out.1; omega, by have := HA.out; have := C1.out; omega, by rw [HX.out.2.2, MS.out, decide_eq_true (.inl T1.out), Bool.true_and]⟩⟩
            case measure =>
              have := C1.out; have := HX.out.1; have := HA.out
              simp [intOf]; omega
          · have t1b : (PrintWords.rd m x != a) = true := bne_iff_ne.mpr t1
            by_cases t2 : PrintWords.rd m x = d
            · have t2b : (PrintWords.rd m x != d) = false := bne_eq_false_iff_eq.mpr t2
              have T2 := Aside0.mk t2
              clear t1 t2
              go_wp2
              go_round
              case rel => exact ⟨a, rfl, ⟨by have := HA.out; have := HX.out.1; omega, by have := HA.out; have := C1.out; omega, by rw [HX.out.2.2, MS.out, decide_eq_true (.inr T2.out), Bool.true_and]⟩⟩
              case measure =>
                have := C1.out; have := HX.out.1; have := HA.out
                simp [intOf]; omega
            · have t2b : (PrintWords.rd m x != d) = true := bne_iff_ne.mpr t2
              have T := Aside0.mk (And.intro t1 t2)
              clear t1 t2
              go_wp2
              go_ret
              exact ⟨by rw [hspec.out, HX.out.2.2, MS.out, show decide (PrintWords.rd m x = a ∨ PrintWords.rd m x = d) = false from decide_eq_false (fun h => h.elim T.out.1 T.out.2)]; simp, HS4.out.below⟩
        · have h1 : decide (x < (m.length : Int)) = false := decide_eq_false c1
          have HMO : Aside0 (mOk 0 m = true) := ⟨by rw [HX.out.2.2, mOk_end c1]⟩
          clear c1
          go_wp2
          go_loopw [41] (fun v41 wr => ∃ x : Int, v41 = .int .i64 x ∧ Aside0 (0 ≤ x ∧ x ≤ cl.length ∧ (cl.all fun c => c.any (mAt m)) = (cl.drop x.toNat).all fun c => c.any (mAt m)) ∧ Aside0 (HSt w wr g2 g3 #[.int .i64 n, .slice A cl.length c] (.slice Am m.length cm))) (fun v41 _ => cl.length - (intOf v41).toNat)
          case atStart => exact ⟨0, rfl, ⟨by omega, by omega, rfl⟩, HS4⟩
          case round =>
            obtain ⟨x, rfl, HX, HS5⟩ := hrel
            by_cases c1 : x < (cl.length : Int)
            · have hlm := HF.out.1
              have p0 := HX.out.1
              obtain ⟨ad, A0, c0, e1, hx0, hc0, hrc⟩ := at_L1 HR.out x p0 c1
              cases e1
              have hx1 := (HS5.out.below.cell (World.block_lt_of_cell? w _ hx0)).trans hx0
              have hmem : rd_L1 cl x ∈ cl := by rw [rdL_get p0 c1]; exact List.getElem_mem _
              have hok := ((validC_iff _ _).1 HVT.out).2 _ hmem
              rw [← HN.out] at hok
              have hstep : (cl.drop x.toNat).all (fun c => c.any (mAt m)) = ((rd_L1 cl x).any (mAt m) && (cl.drop (x + 1).toNat).all (fun c => c.any (mAt m))) := by rw [drop_rdL p0 c1, List.all_cons]
              have hlen := HF.out.2 _ hmem
              have hcon : Calls Tryz.prog 32 #[.slice A0 (rd_L1 cl x).length c0, .func (.func 49) #[] #[.pointer (some ⟨g3, 0, none⟩)]] wr fun e w' => e = .returned (.bool ((rd_L1 cl x).any (mAt m))) ∧ Aside0 (HSt w w' g2 g3 #[.int .i64 n, .slice (some ad) cl.length c] (.slice Am m.length cm)) := by
                refine (containsFunc (litIn m.length) A0 c0 (rd_L1 cl x) (rd_L1 cl x) (litIn_map hok) wr (Kd.C_below hrc HS5.out.below) hlen (fun y => mAt m (litIn m.length y)) 49 #[.pointer (some ⟨g3, 0, none⟩)] holds1_enters (fun h0 W y hbW => ?_)).mono ?_
                · have hpos : 0 < m.length := by
                    have hm := ((clauseOk_iff _ _).1 hok).2 _ (List.getElem_mem h0)
                    omega
                  have hl := litIn_ok hpos y
                  have hW := HS5.out.later hbW
                  exact holds1_calls g3 Am cm m _ W hW.b3 (Kd.C_below HM.out hW.below) hl.1 hl.2 HL.out
                · rintro e w' ⟨rfl, q, rfl⟩
                  exact ⟨by rw [litIn_any hok], ⟨HS5.out.later ⟨rfl, rfl, rfl, Nat.le_refl _, fun _ _ => rfl⟩⟩⟩
              have HCON := Aside0.mk hcon
              have HST := Aside0.mk hstep
              obtain ⟨a, ha⟩ : ∃ a : Int, a = x + 1 := ⟨_, rfl⟩
              have ka : IntKind.i64.wrap (x + 1) = a := (IntWalk.i64_in _ (by omega)).trans ha.symm
              have ka2 : wrap64 (x + 1) = a := by unfold wrap64; omega
              have h1 : decide (x < (cl.length : Int)) = true := decide_eq_true c1
              have p1 : (0 ≤ x) = True := eq_true p0
              have q1 : (x < (cl.length : Int)) = True := eq_true c1
              have HA := Aside0.mk ha
              have C1 := Aside0.mk c1
              clear ha c1 hx0 p0 hlm hmem hok hstep hlen hcon hrc hc0
              by_cases t1 : (rd_L1 cl x).any (mAt m) = true
              · have HC1 := HCON.out
                rw [t1] at HC1
                have T1 := Aside0.mk t1
                clear t1 HCON
                go_wp2_with (go_at_call 32; refine HC1.mono ?_; rintro e w6 ⟨rfl, HS6⟩)
                go_roundw
                case rel => exact ⟨a, rfl, ⟨by have := HA.out; have := HX.out.1; omega, by have := HA.out; have := C1.out; omega, by rw [HX.out.2.2, HST.out, T1.out, Bool.true_and, HA.out]⟩, HS6⟩
                case measure =>
                  have := C1.out; have := HX.out.1; have := HA.out
                  simp [intOf]; omega
              · have HC1 := HCON.out
                rw [show (rd_L1 cl x).any (mAt m) = false by simpa using t1] at HC1
                have T1 := Aside0.mk t1
                clear t1 HCON
                go_wp2_with (go_at_call 32; refine HC1.mono ?_; rintro e w6 ⟨rfl, HS6⟩)
                go_ret
                exact ⟨by rw [hspec.out, HX.out.2.2, HST.out, show (rd_L1 cl x).any (mAt m) = false by simpa using T1.out]; simp, HS6.out.below⟩
            · have h1 : decide (x < (cl.length : Int)) = false := decide_eq_false c1
              have HE : Aside0 ((cl.drop x.toNat).all (fun c => c.any (mAt m)) = true) := ⟨by rw [List.drop_eq_nil_of_le (by omega)]; rfl⟩
              clear c1
              go_wp2
              go_ret
              exact ⟨by rw [hspec.out, HVT.out, decide_eq_true HN.out, HMO.out, HX.out.2.2, HE.out]; rfl, HS5.out.below⟩
    · have hnb : ((m.length : Int) != n) = true := bne_iff_ne.mpr hn
      have HN := Aside0.mk hn
      clear hn
      go_wp2_with (go_at_call 15; refine HV1.mono ?_; rintro e w4 ⟨rfl, ⟨d0, d1, d2⟩, HS4⟩)
      go_ret
      exact ⟨by rw [hspec.out, HVT.out, decide_eq_false HN.out]; rfl, HS4.out.below⟩
  · have HV1 := HV.out false (by simpa using hv)
    have HVT := Aside0.mk hv
    clear HV hv
    go_wp2_with (go_at_call 15; refine HV1.mono ?_; rintro e w4 ⟨rfl, ⟨d0, d1, d2⟩, HS4⟩)
    go_ret
    exact ⟨by rw [hspec.out, show validC n cl = false by simpa using HVT.out]; rfl, HS4.out.below⟩
end Go.Proofs.YteaohgebocbehaaGreatDoor.Hand
end
section
/- strings.Builder at this program: copyCheck and WriteString at a builder that the call has made itself; String at whatever such a builder holds. Conditions: the new length is at most 2^47 bytes. -/
set_option linter.unusedVariables false
namespace Go.Proofs.YteaohgebocbehaaGreatDoor.Hand
open Go.RowKit
set_option maxHeartbeats 1000000 in
set_option maxRecDepth 100000 in
theorem copyCheck_used (b : Nat) (w : World) (h0 : w.cell? ⟨b, 0, none⟩ = some (.pointer (some ⟨b, 0, none⟩))) :
    Calls Tryz.prog 87 #[.pointer (some ⟨b, 0, none⟩)] w fun e w' => e = .returned (.tuple #[]) ∧ w' = w := by
  obtain ⟨j, hj, _⟩ := Option.map_eq_some_iff.1 (show (Tryz.prog.info? 92).map (·.size) = some 2 by kernel_rfl)
  go_enter Tryz.func87, Tryz.ntmps87
  go_wp2
  rw [Lib.run_neq_ptr_same w _ Tryz.underlying89 hj]
  go_wp2
  go_end0
  exact ⟨rfl, rfl⟩
set_option maxHeartbeats 1000000 in
set_option maxRecDepth 100000 in
theorem copyCheck_fresh (b : Nat) (w : World) (h0 : w.cell? ⟨b, 0, none⟩ = some (.pointer none)) (hsh : w.shape? b = some (92, 2)) (hfz : w.frozen? ⟨b, 0, none⟩ = false) :
    Calls Tryz.prog 87 #[.pointer (some ⟨b, 0, none⟩)] w fun e w' => e = .returned (.tuple #[]) ∧ w' = w.setCell ⟨b, 0, none⟩ (.pointer (some ⟨b, 0, none⟩)) := by
  obtain ⟨j, hj, hjs⟩ := Option.map_eq_some_iff.1 (show (Tryz.prog.info? 92).map (·.size) = some 2 by kernel_rfl)
  go_enter Tryz.func87, Tryz.ntmps87
  go_wp2
  rw [Lib.run_to_unsafe w ⟨b, 0, none⟩ Tryz.underlying89 Tryz.underlying134 hj (by rw [hjs]; decide) hsh (Nat.zero_lt_succ 1)]
  simp only [Result.andThen]
  rw [Oper.upon_value]
  go_wp2
  rw [run_callFunc_extern Tryz.func109 (by kernel_rfl) (by kernel_rfl) (by kernel_rfl) (e := Extern.AbiNoEscape.same) (by kernel_rfl)]
  rw [Lib.run_noEscape]
  simp only [Result.andThen]
  rw [Oper.upon_value]
  go_wp2
  rw [Lib.run_from_unsafe w ⟨b, 0, none⟩ Tryz.underlying134 Tryz.underlying89 hj hsh (by kernel_rfl)]
  simp only [Result.andThen]
  rw [Oper.upon_value]
  go_wp2
  go_end0
  exact ⟨rfl, rfl⟩
theorem copyCheck (B b : Nat) (bs : List Value) (w : World) (h : Lib.IsBuilder 92 5 B b bs w) :
    Calls Tryz.prog 87 #[.pointer (some ⟨b, 0, none⟩)] w fun e w' => e = .returned (.tuple #[]) ∧ (Lib.BuilderAt 92 5 B b (.pointer (some ⟨b, 0, none⟩)) bs w' ∧ Below B w w') := by
  rcases h with h | h
  · refine (copyCheck_fresh b w h.cell0 h.shape h.frozen0).mono ?_
    rintro e w' ⟨rfl, rfl⟩
    exact ⟨rfl, h.used _, (Below.refl B w).setCell (p := ⟨b, 0, none⟩) h.1 _⟩
  · refine (copyCheck_used b w h.cell0).mono ?_
    rintro e w' ⟨rfl, rfl⟩
    exact ⟨rfl, h, Below.refl B _⟩
set_option maxHeartbeats 2000000 in
set_option maxRecDepth 100000 in
theorem writeString (B b : Nat) (bs : List Value) (s : ByteArray) (w : World) (h : Lib.IsBuilder 92 5 B b bs w) (hlen : bs.length + s.size ≤ 140737488355328) (hBw : B ≤ w.heap.size) :
    Calls Tryz.prog 66 #[.pointer (some ⟨b, 0, none⟩), .string s] w fun e w' => e = .returned (.tuple #[.int .i64 s.size, .nilIface]) ∧ (Lib.BuilderAt 92 5 B b (.pointer (some ⟨b, 0, none⟩)) (bs ++ Lib.strCells s) w' ∧ Below B w w') := by
  obtain ⟨i0, hi, hz0, hz1, hz2⟩ := info_parts (show (Tryz.prog.info? 5).map (fun i => (i.zero, i.size, i.bytes)) = some (some (.int .u8 0), 1, 1) by kernel_rfl)
  go_enter Tryz.func66, Tryz.ntmps66
  go_wp2_with (go_at_call 87; refine (copyCheck B b bs _ h).mono ?_)
  rintro e w1 ⟨rfl, h1, hb1⟩
  obtain ⟨hB, v, hbk, hown, hne⟩ := h1
  have c0 : w1.cell? ⟨b, 0, none⟩ = some (.pointer (some ⟨b, 0, none⟩)) := by rw [Lib.cell_of_heap hbk]; rfl
  have c1 : w1.cell? ⟨b, 1, none⟩ = some v := by rw [Lib.cell_of_heap hbk]; rfl
  go_wp2_with (at_builtin; refine Lib.wpList_append_own_string _ rfl _ _ 90 9 rfl B 5 i0 Tryz.underlying90 Tryz.underlying9 hi hz0 hz1 hz2 _ _ _ rfl hown s rfl ?c3 ?c4 ?c5 ?_)
  case c3 => unfold maxLen; omega
  case c4 => omega
  case c5 => have := hb1.size; omega
  intro v' w2 hown' hgrow _
  have hlt : b < w1.heap.size := by
    rcases Nat.lt_or_ge b w1.heap.size with h' | h'
    · exact h'
    · simp [Array.getElem?_eq_none h'] at hbk
  have hb2 : w2.heap[b]? = some (.cells #[.pointer (some ⟨b, 0, none⟩), v] 92 (0, 0)) := by
    rw [hgrow.block b hlt (fun e => hne e.symm)]
    exact hbk
  have d0 : w2.cell? ⟨b, 0, none⟩ = some (.pointer (some ⟨b, 0, none⟩)) := by rw [Lib.cell_of_heap hb2]; rfl
  have d1 : w2.cell? ⟨b, 1, none⟩ = some v := by rw [Lib.cell_of_heap hb2]; rfl
  have f1 : w2.frozen? ⟨b, 1, none⟩ = false := Lib.frozen_of_heap hb2 1
  obtain ⟨ao, n', cap, rfl⟩ : ∃ ao n' cap, v' = .slice ao n' cap := by
    rcases hown'.2 with ⟨hv, _⟩ | ⟨g, cap, cur, hv, _⟩
    · exact ⟨_, _, _, hv⟩
    · exact ⟨_, _, _, hv⟩
  go_wp2
  go_ret2
  refine ⟨rfl, ?_, ?_⟩
  · exact Lib.BuilderAt.put (T := 92) (e := 5) hB hb2 (bs' := bs ++ Lib.strCells s) (by simpa [Lib.strCells_length] using hown') (by decide)
  · exact (hb1.grown hgrow (by have := hb1.size; omega) (fun k hk => (hown.lt k hk).1)).setCell (p := ⟨b, 1, none⟩) hB _
end Go.Proofs.YteaohgebocbehaaGreatDoor.Hand
end
section
/- cnf.Format at any formula of small clauses: the walk. Conditions: what the library's variables hold (Tabs); at most 2^44 clauses and literals of a clause. -/
set_option linter.unusedVariables false
set_option linter.unusedSimpArgs false
namespace Go.Proofs.YteaohgebocbehaaGreatDoor.Plain
open Go.Lib Go.RowKit
def lineL (c : List Int) : List UInt8 := (c.flatMap fun l => itoa l ++ [32]) ++ [48, 10]
def headL (n : Int) (k : Nat) : List UInt8 := [112, 32, 99, 110, 102, 32] ++ itoa n ++ [32] ++ itoa k ++ [10]
def fmtL (n : Int) (cl : List (List Int)) : List UInt8 := headL n cl.length ++ cl.flatMap lineL
def formatC (n : Int) (cl : List (List Int)) : List UInt8 := if validC n cl then fmtL n cl else []
end Go.Proofs.YteaohgebocbehaaGreatDoor.Plain
namespace Go.Proofs.YteaohgebocbehaaGreatDoor.Hand
open Go.RowKit Go.Lib Go.Shelf Go.Proofs.YteaohgebocbehaaGreatDoorW Go.Proofs.YteaohgebocbehaaGreatDoorW.PrintWords Go.Proofs.YteaohgebocbehaaGreatDoorW.PrintLast Go.Proofs.YteaohgebocbehaaGreatDoorW.PrintMore Go.Proofs.YteaohgebocbehaaGreatDoor.Plain Go.Proofs.YteaohgebocbehaaGreatDoor.XA
attribute [local go_sem] max2_int min2_int max_two min_two max_three min_three max_four min_four

/-- The formula's box gf, the builder gb, what it holds. -/
structure FSt (w W : World) (gf gb : Nat) (v1 : Array Value) (bs : List UInt8) : Prop where
  b1 : W.heap[gf]? = some (.cells v1 24 (0, 0))
  lt : gf < gb
  bld : Lib.IsBuilder 92 5 gb gb (byteCells bs) W
  ge : w.heap.size ≤ gb
  below : Below w.heap.size w W
  sz : gb ≤ W.heap.size
  tabs : Tabs W
theorem bld_below {T e : TypeId} {B b : Nat} {bs : List Value} {W W' : World} (h : Lib.IsBuilder T e B b bs W) (hb : Below W.heap.size W W') : Lib.IsBuilder T e B b bs W' := by
  rcases h with ⟨h1, v, h2, h3, h4⟩ | ⟨h1, v, h2, h3, h4⟩
  · exact .inl ⟨h1, v, blk_below h2 hb, pw_own_below h3 hb, h4⟩
  · exact .inr ⟨h1, v, blk_below h2 hb, pw_own_below h3 hb, h4⟩
theorem FSt.later {w W W' : World} {gf gb : Nat} {v1 : Array Value} {bs : List UInt8} (h : FSt w W gf gb v1 bs) (hb : Below W.heap.size W W') : FSt w W' gf gb v1 bs :=
  ⟨blk_below h.b1 hb, h.lt, bld_below h.bld hb, h.ge, below_step h.below hb, Nat.le_trans h.sz hb.size, h.tabs.same hb⟩
theorem FSt.written {w W W' : World} {gf gb : Nat} {v1 : Array Value} {bs bs' : List UInt8} (h : FSt w W gf gb v1 bs) (hb : Below gb W W') (hB : Lib.BuilderAt 92 5 gb gb (.pointer (some ⟨gb, 0, none⟩)) (byteCells bs') W') (h8 : 8 ≤ gb) : FSt w W' gf gb v1 bs' :=
  ⟨(hb.block gf h.lt).trans h.b1, h.lt, .inr hB, h.ge, h.below.trans (hb.mono h.ge), Nat.le_trans h.sz hb.size, h.tabs.below hb h8⟩
theorem write {w W : World} {gf gb : Nat} {v1 : Array Value} {bs : List UInt8} (s : ByteArray) (l : List UInt8) (hl : s.data.toList = l) (h : FSt w W gf gb v1 bs) (hlen : bs.length + l.length ≤ 140737488355328) (h8 : 8 ≤ gb) :
    Calls Tryz.prog 66 #[.pointer (some ⟨gb, 0, none⟩), .string s] W fun e w' => (∃ v, e = .returned v) ∧ FSt w w' gf gb v1 (bs ++ l) := by
  have hs : s.size = l.length := by rw [← hl, Array.length_toList]; rfl
  refine (writeString gb gb (byteCells bs) s W h.bld (by rw [byteCells_length, hs]; exact hlen) h.sz).mono ?_
  rintro e w' ⟨rfl, hB, hb⟩
  refine ⟨⟨_, rfl⟩, h.written hb ?_ h8⟩
  rwa [byteCells_append, ← hl, ← strCells_eq]
/-- The text of a number. -/
def numB (n : Int) : ByteArray := ⟨(Go.Lib.itoa n).toArray⟩
theorem numB_size {n : Int} (h : (Lit.int .i64 n).wf = true) : (numB n).size ≤ 21 := by
  have hb : -9223372036854775808 ≤ n ∧ n ≤ 9223372036854775807 := by
    simp [Lit.wf, show IntKind.i64.min = -9223372036854775808 from by decide, show IntKind.i64.max = 9223372036854775807 from by decide] at h
    omega
  exact itoa_length_le n hb.1 hb.2
theorem wf64 {n : Int} (h0 : -9223372036854775808 ≤ n) (h1 : n ≤ 9223372036854775807) : (Lit.int .i64 n).wf = true := by
  simp [Lit.wf, show IntKind.i64.min = -9223372036854775808 from by decide, show IntKind.i64.max = 9223372036854775807 from by decide]
  omega
theorem itoaF {w W : World} {gf gb : Nat} {v1 : Array Value} {bs : List UInt8} (n : Int) (h0 : -9223372036854775808 ≤ n) (h1 : n ≤ 9223372036854775807) (h : Aside0 (FSt w W gf gb v1 bs)) :
    Calls Tryz.prog 67 #[.int .i64 n] W fun e w' => e = .returned (.string (numB n)) ∧ (w'.cell? ⟨gf, 0, none⟩ = v1[0]? ∧ w'.cell? ⟨gf, 1, none⟩ = v1[1]?) ∧ Aside0 (FSt w w' gf gb v1 bs) := by
  refine (Hand.itoa n (wf64 h0 h1) W h.out.tabs).mono ?_
  rintro e w' ⟨rfl, hb⟩
  have hF := h.out.later hb
  exact ⟨rfl, ⟨blk_cell hF.b1 0, blk_cell hF.b1 1⟩, ⟨hF⟩⟩
theorem writeF {w W : World} {gf gb : Nat} {v1 : Array Value} {bs : List UInt8} (s : ByteArray) (h : Aside0 (FSt w W gf gb v1 bs)) (h8 : 8 ≤ w.heap.size) (hlen : bs.length + s.size ≤ 140737488355328) :
    Calls Tryz.prog 66 #[.pointer (some ⟨gb, 0, none⟩), .string s] W fun e w' => (∃ v, e = .returned v) ∧ (w'.cell? ⟨gf, 0, none⟩ = v1[0]? ∧ w'.cell? ⟨gf, 1, none⟩ = v1[1]?) ∧ Aside0 (FSt w w' gf gb v1 (bs ++ s.data.toList)) := by
  refine (write s s.data.toList rfl h.out (by have e : s.data.toList.length = s.size := by rw [Array.length_toList]; rfl
                                              rw [e]; exact hlen) (Nat.le_trans h8 h.out.ge)).mono ?_
  rintro e w' ⟨he, hF⟩
  exact ⟨he, ⟨blk_cell hF.b1 0, blk_cell hF.b1 1⟩, ⟨hF⟩⟩
set_option maxHeartbeats 4000000 in
set_option maxRecDepth 100000 in
theorem Format_valid (n : Int) (A : Option Addr) (c : Nat) (cl : List (List Int)) (w : World) (hr : kL.C w A cl.length cl) (hc : cl.length ≤ c) (hf : Fine cl) (hT : Tabs w) (hv : validC n cl = true) :
    Calls Tryz.prog 28 #[.agg #[.int .i64 n, .slice A cl.length c]] w fun e w' => e = .returned (.string ⟨(fmtL n cl).toArray⟩) ∧ Below w.heap.size w w' := by
  have hu24 := Tryz.underlying24
  have HR := Aside0.mk hr
  have HC := Aside0.mk hc
  have HF := Aside0.mk hf
  have HT := Aside0.mk hT
  have HV := Aside0.mk hv
  clear hr hc hf hT hv
  go_enter Tryz.func28, Tryz.ntmps28
  go_upto_region 1 with (first | ((with_reducible refine gate_dst (N := 1) rfl ?_); refine box_event ?hg (N := 1) ?hd (cs := #[.int .i64 n, .slice A cl.length c]) (t := 24) ?hr ?_; (case hd => rfl); (case hg => rfl); (case hr => first | (go_simp; done) | (go_simp; rfl)); intro gf hg_ w2 h1_ h2_; have BK2 := Aside0.mk h1_; have HB2 := Aside0.mk h2_; have GEgf := Aside0.mk hg_; clear h1_ h2_ hg_))
  have c20 : w2.cell? ⟨gf, 0, none⟩ = some (.int .i64 n) := (blk_cell BK2.out 0).trans rfl
  have c21 : w2.cell? ⟨gf, 1, none⟩ = some (.slice A cl.length c) := (blk_cell BK2.out 1).trans rfl
  have hvc : Calls Tryz.prog 15 #[.agg #[.int .i64 n, .slice A cl.length c]] w2 fun e w' => e = .returned (.bool true) ∧ Aside0 (Below w2.heap.size w2 w') := by
    refine (Valid_calls n A c cl _ (Kd.C_below HR.out HB2.out) HC.out HF.out).mono ?_
    rintro e w4 ⟨rfl, hb⟩
    exact ⟨by rw [HV.out], ⟨hb⟩⟩
  go_upto_region 4 with (first
    | (go_at_call 15; refine hvc.mono ?_; rintro e w4 ⟨rfl, HB4⟩)
    | ((with_reducible refine gate_dst (N := 3) rfl ?_); refine box_event ?hg (N := 3) ?hd (cs := #[.pointer none, .slice none 0 0]) (t := 92) ?hr ?_; (case hd => rfl); (case hg => rfl); (case hr => first | (go_simp; done) | (go_simp; rfl)); intro gb hg_ w5 h1_ h2_; have BK5 := Aside0.mk h1_; have HB5 := Aside0.mk h2_; have GEgb := Aside0.mk hg_; clear h1_ h2_ hg_))
  have hvi := (validC_iff _ _).1 HV.out
  have HS : Aside0 (FSt w w5 gf gb #[.int .i64 n, .slice A cl.length c] []) := by
    have b1 := blk_below (blk_below BK2.out HB4.out) HB5.out
    have hb4 := below_step HB2.out HB4.out
    have hgb := GEgb.out
    refine ⟨⟨b1, ?_, .inl ⟨Nat.le_refl _, .slice none 0 0, BK5.out, own_nil _ _ _ _, by simp [Value.ownBlock]⟩, ?_, below_step hb4 HB5.out, ?_, ?_⟩⟩
    · have := blk_lt (blk_below BK2.out HB4.out); omega
    · have := hb4.size; omega
    · have := blk_lt BK5.out; omega
    · exact (HT.out.same hb4).same HB5.out
  clear BK2 HB2 HB4 BK5 HB5 GEgb GEgf hvc c20 c21
  have n0 : 0 ≤ n := hvi.1.1
  have n1 : n ≤ 65536 := hvi.1.2.1
  have k1 : (cl.length : Int) ≤ 262144 := hvi.1.2.2
  clear hvi
  have c20 : w5.cell? ⟨gf, 0, none⟩ = some (.int .i64 n) := (blk_cell HS.out.b1 0).trans rfl
  have c21 : w5.cell? ⟨gf, 1, none⟩ = some (.slice A cl.length c) := (blk_cell HS.out.b1 1).trans rfl
  have HSD : Aside0 (FSt w w5.drew gf gb #[.int .i64 n, .slice A cl.length c] []) := ⟨HS.out.later ⟨rfl, rfl, rfl, Nat.le_refl _, fun _ _ => rfl⟩⟩
  obtain ⟨s1, es1⟩ : ∃ s1, s1 = numB n := ⟨_, rfl⟩
  obtain ⟨s2, es2⟩ : ∃ s2, s2 = numB (cl.length : Int) := ⟨_, rfl⟩
  have z1 : s1.size ≤ 21 := by rw [es1]; exact numB_size (wf64 (by omega) (by omega))
  have z2 : s2.size ≤ 21 := by rw [es2]; exact numB_size (wf64 (by omega) (by omega))
  have f1 : ((9223372036854775807 : Nat) < 6 + s1.size) = False := eq_false (by omega)
  have f2 : ((9223372036854775807 : Nat) < 6 + s1.size + 1) = False := eq_false (by omega)
  have f3 : ((9223372036854775807 : Nat) < 6 + s1.size + 1 + s2.size) = False := eq_false (by omega)
  have f4 : ((9223372036854775807 : Nat) < 6 + s1.size + 1 + s2.size + 1) = False := eq_false (by omega)
  have f1' : ((9223372036854775807 : Nat) < (⟨#[112, 32, 99, 110, 102, 32]⟩ : ByteArray).size + s1.size) = False := eq_false (by show ¬ _ < 6 + s1.size; omega)
  have hi1 : ∀ W : World, Aside0 (FSt w W gf gb #[.int .i64 n, .slice A cl.length c] []) → Calls Tryz.prog 67 #[.int .i64 n] W fun e w' => e = .returned (.string s1) ∧ (w'.cell? ⟨gf, 0, none⟩ = some (.int .i64 n) ∧ w'.cell? ⟨gf, 1, none⟩ = some (.slice A cl.length c)) ∧ Aside0 (FSt w w' gf gb #[.int .i64 n, .slice A cl.length c] []) := fun W h => by
    rw [es1]; exact itoaF n (by omega) (by omega) h
  have hi2 : ∀ W : World, Aside0 (FSt w W gf gb #[.int .i64 n, .slice A cl.length c] []) → Calls Tryz.prog 67 #[.int .i64 (cl.length : Int)] W fun e w' => e = .returned (.string s2) ∧ (w'.cell? ⟨gf, 0, none⟩ = some (.int .i64 n) ∧ w'.cell? ⟨gf, 1, none⟩ = some (.slice A cl.length c)) ∧ Aside0 (FSt w w' gf gb #[.int .i64 n, .slice A cl.length c] []) := fun W h => by
    rw [es2]; exact itoaF _ (by omega) (by omega) h
  have hz : ([] : List UInt8).length + ((⟨#[112, 32, 99, 110, 102, 32]⟩ : ByteArray) ++ s1 ++ ⟨#[32]⟩ ++ s2 ++ ⟨#[10]⟩).size ≤ 140737488355328 := by
    simp only [ByteArray.size_append, List.length_nil]
    show 0 + (6 + s1.size + 1 + s2.size + 1) ≤ _
    omega
  have HZ := Aside0.mk hz
  have hh : ([] : List UInt8) ++ ((⟨#[112, 32, 99, 110, 102, 32]⟩ : ByteArray) ++ s1 ++ ⟨#[32]⟩ ++ s2 ++ ⟨#[10]⟩).data.toList = headL n cl.length := by
    rw [es1, es2]
    simp [ByteArray.data_append, numB, headL]
  have HH := Aside0.mk hh
  have hl0 : (headL n cl.length).length ≤ 50 := by
    rw [← hh, List.nil_append, Array.length_toList]
    show ((⟨#[112, 32, 99, 110, 102, 32]⟩ : ByteArray) ++ s1 ++ ⟨#[32]⟩ ++ s2 ++ ⟨#[10]⟩).size ≤ 50
    simp only [ByteArray.size_append]
    show (6 + s1.size + 1 + s2.size + 1) ≤ _
    omega
  have HL0 := Aside0.mk hl0
  clear hz hh hl0
  have ES := Aside0.mk (And.intro es1 es2)
  have Z := Aside0.mk (And.intro z1 z2)
  have NK := Aside0.mk (And.intro n0 (And.intro n1 k1))
  have HI1 := Aside0.mk hi1
  have HI2 := Aside0.mk hi2
  clear es1 es2 z1 z2 n0 n1 k1 hi1 hi2
  go_region_held3 (fun W' => W'.cell? ⟨gf, 0, none⟩ = some (.int .i64 n) ∧ W'.cell? ⟨gf, 1, none⟩ = some (.slice A cl.length c)) (((try dsimp only); refine ⟨?_, ?_⟩ <;> assumption))
    (first | (go_at_call 67; (with_reducible refine (HI1.out _ (by assumption)).mono ?_); rintro e w' ⟨rfl, ⟨e0, e1⟩, g5⟩) | (go_at_call 67; (with_reducible refine (HI2.out _ (by assumption)).mono ?_); rintro e w' ⟨rfl, ⟨e0, e1⟩, g5⟩) | (go_at_call 66; refine (writeF _ (by assumption) HT.out.size HZ.out).mono ?_; rintro e w' ⟨⟨rv, rfl⟩, ⟨e0, e1⟩, g6⟩))
  all_goals go_wp2
  rw [HH.out] at g6
  clear e0 e1 f1 f2 f3 f4 f1' HI1 HI2 HS HSD
  clear c20 c21
  go_loopg [26] cl.length (fun d v26 wr => ∃ x : Int, v26 = .int .i64 x ∧ Aside0 (0 ≤ x ∧ x + d = cl.length) ∧ (∃ bs, Aside0 (FSt w wr gf gb #[.int .i64 n, .slice A cl.length c] bs) ∧ Aside0 (bs = headL n cl.length ++ (cl.take x.toNat).flatMap lineL ∧ (bs.length : Int) ≤ 50 + x * 1441794)))
  case atStart => exact ⟨0, rfl, ⟨by omega, by omega⟩, _, g6, ⟨by simp, by have := HL0.out; omega⟩⟩
  case round =>
    obtain ⟨x, rfl, HX, bs, HS, HBS⟩ := hrel
    cases gk with
    | zero =>
      have h1 : decide (x < (cl.length : Int)) = false := decide_eq_false (by have := HX.out; omega)
      go_wp2_with (go_at_call 68; refine (Tryz.Builder_String_any gb gb bs _ HS.out.bld HS.out.sz).mono ?_; rintro e w6 ⟨rfl, hb⟩; have HB6 := Aside0.mk hb; clear hb)
      go_ret
      refine ⟨?_, HS.out.below.trans (HB6.out.mono HS.out.ge)⟩
      rw [HBS.out.1]
      have e : (cl.take x.toNat) = cl := List.take_of_length_le (by have := HX.out; omega)
      rw [e]
      rfl
    | succ d1 =>
      have c1 : x < (cl.length : Int) := by have := HX.out; omega
      have p0 := HX.out.1
      obtain ⟨ad, A0, c0, e1, hx0, hc0, hrc⟩ := at_L1 HR.out x p0 c1
      cases e1
      have hx1 := (HS.out.below.cell (World.block_lt_of_cell? w _ hx0)).trans hx0
      have hmem : rd_L1 cl x ∈ cl := by rw [rdL_get p0 c1]; exact List.getElem_mem _
      have hok := ((validC_iff _ _).1 HV.out).2 _ hmem
      have hstep : (cl.take (x + 1).toNat).flatMap lineL = (cl.take x.toNat).flatMap lineL ++ lineL (rd_L1 cl x) := by
        rw [show (x + 1).toNat = x.toNat + 1 by omega, List.take_succ_eq_append_getElem (by omega), List.flatMap_append, rdL_get p0 c1]
        simp
      obtain ⟨a, ha⟩ : ∃ a : Int, a = x + 1 := ⟨_, rfl⟩
      have ka : IntKind.i64.wrap (x + 1) = a := (IntWalk.i64_in _ (by have := NK.out; omega)).trans ha.symm
      have ka2 : wrap64 (x + 1) = a := by have := NK.out; unfold wrap64; omega
      have h1 : decide (x < (cl.length : Int)) = true := decide_eq_true c1
      have p1 : (0 ≤ x) = True := eq_true p0
      have q1 : (x < (cl.length : Int)) = True := eq_true c1
      generalize rd_L1 cl x = cc at hx1 hrc hok hstep hc0
      have HA := Aside0.mk ha
      have HRC := Aside0.mk hrc
      have HOK := Aside0.mk hok
      have HST := Aside0.mk hstep
      have HCL := Aside0.mk (clauseOk_length NK.out.1 hok)
      clear ha c1 hx0 p0 hmem hok hstep hrc hc0
      go_wp2
      go_loopg [32] cc.length (fun d v32 wr => ∃ y : Int, v32 = .int .i64 y ∧ Aside0 (0 ≤ y ∧ y + d = cc.length) ∧ (∃ bs2, Aside0 (FSt w wr gf gb #[.int .i64 n, .slice (some ad) cl.length c] bs2) ∧ Aside0 (bs2 = bs ++ (cc.take y.toNat).flatMap (fun l => Go.Lib.itoa l ++ [32]) ∧ (bs2.length : Int) ≤ bs.length + y * 22)))
      case atStart => exact ⟨0, rfl, ⟨by omega, by omega⟩, _, HS, ⟨by simp, by omega⟩⟩
      case round =>
        obtain ⟨y, rfl, HY, bs2, HS2, HBS2⟩ := hrel
        cases gk with
        | zero =>
          have h2 : decide (y < (cc.length : Int)) = false := decide_eq_false (by have := HY.out; omega)
          have HZ2 : Aside0 (bs2.length + (⟨#[48, 10]⟩ : ByteArray).size ≤ 140737488355328) := ⟨by
            have := HBS2.out.2; have := HBS.out.2; have := HCL.out; have := NK.out; have := HY.out; have := HX.out
            show bs2.length + 2 ≤ _
            omega⟩
          go_wp2_with (go_at_call 66; refine (writeF _ HS2 HT.out.size HZ2.out).mono ?_; rintro e w7 ⟨⟨rv, rfl⟩, ⟨e0, e1⟩, g7⟩; clear e0 e1)
          go_roundg d1
          case measure => omega
          case rel =>
            refine ⟨a, rfl, ⟨by have := HA.out; have := HX.out; omega, by have := HA.out; have := HX.out; omega⟩, _, g7, ⟨?_, ?_⟩⟩
            · have ht : cc.take y.toNat = cc := List.take_of_length_le (by have := HY.out; omega)
              rw [HBS2.out.1, HBS.out.1, HA.out, HST.out, ht]
              simp [lineL]
            · have := HBS2.out.2; have := HBS.out.2; have := HCL.out; have := NK.out; have := HY.out; have := HA.out
              simp only [List.length_append]
              show ((bs2.length + 2 : Nat) : Int) ≤ _
              omega
        | succ d2 =>
          have c2 : y < (cc.length : Int) := by have := HY.out; omega
          have p2 := HY.out.1
          obtain ⟨ad2, e2, hy0⟩ := Kd.at_int HRC.out y p2 c2
          cases e2
          have hy1 := (HS2.out.below.cell (World.block_lt_of_cell? w _ hy0)).trans hy0
          have hb := ((clauseOk_iff _ _).1 HOK.out).2 _ (rd_mem cc y p2 c2)
          obtain ⟨s3, es3⟩ : ∃ s3, s3 = numB (PrintWords.rd cc y) := ⟨_, rfl⟩
          have z3 : s3.size ≤ 21 := by rw [es3]; exact numB_size (wf64 (by have := NK.out; omega) (by have := NK.out; omega))
          have hi3 : ∀ W : World, Aside0 (FSt w W gf gb #[.int .i64 n, .slice (some ad) cl.length c] bs2) → Calls Tryz.prog 67 #[.int .i64 (PrintWords.rd cc y)] W fun e w' => e = .returned (.string s3) ∧ (w'.cell? ⟨gf, 0, none⟩ = some (.int .i64 n) ∧ w'.cell? ⟨gf, 1, none⟩ = some (.slice (some ad) cl.length c)) ∧ Aside0 (FSt w w' gf gb #[.int .i64 n, .slice (some ad) cl.length c] bs2) := fun W h => by
            rw [es3]; exact itoaF _ (by have := NK.out; omega) (by have := NK.out; omega) h
          have f5 : ((9223372036854775807 : Nat) < s3.size + 1) = False := eq_false (by omega)
          have HZ3 : Aside0 (bs2.length + (s3 ++ ⟨#[32]⟩ : ByteArray).size ≤ 140737488355328) := ⟨by
            have := HBS2.out.2; have := HBS.out.2; have := HCL.out; have := NK.out; have := HY.out; have := HX.out
            rw [ByteArray.size_append]
            show bs2.length + (s3.size + 1) ≤ _
            omega⟩
          have hs3 : (s3 ++ ⟨#[32]⟩ : ByteArray).data.toList = Go.Lib.itoa (PrintWords.rd cc y) ++ [32] := by rw [es3]; simp [ByteArray.data_append, numB]
          have HS3 := Aside0.mk (And.intro hs3 z3)
          have HI3 := Aside0.mk hi3
          obtain ⟨b, hb1⟩ : ∃ b : Int, b = y + 1 := ⟨_, rfl⟩
          have kb : IntKind.i64.wrap (y + 1) = b := (IntWalk.i64_in _ (by have := HCL.out; have := NK.out; omega)).trans hb1.symm
          have kb2 : wrap64 (y + 1) = b := by have := HCL.out; have := NK.out; unfold wrap64; omega
          have h2 : decide (y < (cc.length : Int)) = true := decide_eq_true c2
          have r1 : (0 ≤ y) = True := eq_true p2
          have r2 : (y < (cc.length : Int)) = True := eq_true c2
          have hstep2 : (cc.take b.toNat).flatMap (fun l => Go.Lib.itoa l ++ [32]) = (cc.take y.toNat).flatMap (fun l => Go.Lib.itoa l ++ [32]) ++ (Go.Lib.itoa (PrintWords.rd cc y) ++ [32]) := by
            rw [hb1, show (y + 1).toNat = y.toNat + 1 by omega, List.take_succ_eq_append_getElem (by omega), List.flatMap_append, rd_get p2 c2]
            simp
          have HB1 := Aside0.mk hb1
          have HST2 := Aside0.mk hstep2
          clear hb es3 z3 hi3 hs3 hb1 c2 p2 hy0 hstep2
          go_wp2_with (first
            | (go_at_call 67; (with_reducible refine (HI3.out _ (by assumption)).mono ?_); rintro e w' ⟨rfl, ⟨e0, e1⟩, g5⟩; clear e0 e1)
            | (go_at_call 66; refine (writeF _ g5 HT.out.size HZ3.out).mono ?_; rintro e w7 ⟨⟨rv, rfl⟩, ⟨e0, e1⟩, g7⟩; clear e0 e1))
          go_roundg d2
          case measure => omega
          case rel =>
            refine ⟨b, rfl, ⟨by have := HB1.out; have := HY.out; omega, by have := HB1.out; have := HY.out; omega⟩, _, g7, ⟨?_, ?_⟩⟩
            · rw [HS3.out.1, HBS2.out.1, HST2.out]
              simp
            · have := HBS2.out.2; have := HB1.out; have := HS3.out.2
              rw [List.length_append, Array.length_toList]
              show ((bs2.length + (s3 ++ ⟨#[32]⟩ : ByteArray).size : Nat) : Int) ≤ _
              rw [ByteArray.size_append]
              show ((bs2.length + (s3.size + 1) : Nat) : Int) ≤ _
              omega
set_option maxHeartbeats 4000000 in
set_option maxRecDepth 100000 in
theorem Format_calls (n : Int) (A : Option Addr) (c : Nat) (cl : List (List Int)) (w : World) (hr : kL.C w A cl.length cl) (hc : cl.length ≤ c) (hf : Fine cl) (hT : Tabs w) :
    Calls Tryz.prog 28 #[.agg #[.int .i64 n, .slice A cl.length c]] w fun e w' => e = .returned (.string ⟨(formatC n cl).toArray⟩) ∧ Below w.heap.size w w' := by
  by_cases hv : validC n cl = true
  · unfold formatC
    rw [if_pos hv]
    exact Format_valid n A c cl w hr hc hf hT hv
  · unfold formatC
    rw [if_neg hv]
    have hv' : validC n cl = false := by simpa using hv
    have hu24 := Tryz.underlying24
    have HR := Aside0.mk hr
    have HC := Aside0.mk hc
    have HF := Aside0.mk hf
    have HV := Aside0.mk hv'
    clear hr hc hf hT hv hv'
    go_enter Tryz.func28, Tryz.ntmps28
    go_upto_region 1 with (first | ((with_reducible refine gate_dst (N := 1) rfl ?_); refine box_event ?hg (N := 1) ?hd (cs := #[.int .i64 n, .slice A cl.length c]) (t := 24) ?hr ?_; (case hd => rfl); (case hg => rfl); (case hr => first | (go_simp; done) | (go_simp; rfl)); intro gf hg_ w2 h1_ h2_; have BK2 := Aside0.mk h1_; have HB2 := Aside0.mk h2_; have GEgf := Aside0.mk hg_; clear h1_ h2_ hg_))
    have c20 : w2.cell? ⟨gf, 0, none⟩ = some (.int .i64 n) := (blk_cell BK2.out 0).trans rfl
    have c21 : w2.cell? ⟨gf, 1, none⟩ = some (.slice A cl.length c) := (blk_cell BK2.out 1).trans rfl
    have hvc : Calls Tryz.prog 15 #[.agg #[.int .i64 n, .slice A cl.length c]] w2 fun e w' => e = .returned (.bool false) ∧ Aside0 (Below w2.heap.size w2 w') := by
      refine (Valid_calls n A c cl _ (Kd.C_below HR.out HB2.out) HC.out HF.out).mono ?_
      rintro e w4 ⟨rfl, hb⟩
      exact ⟨by rw [HV.out], ⟨hb⟩⟩
    go_wp2_with (go_at_call 15; refine hvc.mono ?_; rintro e w4 ⟨rfl, HB4⟩)
    go_ret
    exact ⟨rfl, below_step HB2.out HB4.out⟩
end Go.Proofs.YteaohgebocbehaaGreatDoor.Hand
end
section
/- What cnf.Parse answers. No conditions. -/
set_option linter.unusedVariables false
namespace Go.Proofs.YteaohgebocbehaaGreatDoor.Plain
open Go.Lib Go.Proofs.YteaohgebocbehaaGreatDoor.Hand
theorem cut_shape (l : List UInt8) : ∃ i : Nat, i ≤ l.length ∧ (cut l [10]).1 = l.take i ∧ ((cut l [10]).2.1 = [] ∨ (cut l [10]).2.1 = l.drop (i + 1) ∧ i + 1 ≤ l.length) := by
  unfold cut
  by_cases h : 0 ≤ index l [10]
  · have := index_room l [10] h
    simp only [List.length_cons, List.length_nil] at this
    rw [if_pos h]
    exact ⟨(index l [10]).toNat, by omega, rfl, .inr ⟨rfl, by omega⟩⟩
  · rw [if_neg h]
    exact ⟨l.length, Nat.le_refl _, by simp, .inl rfl⟩
theorem cut_len (l : List UInt8) (h : l ≠ []) : (cut l [10]).2.1.length < l.length := by
  obtain ⟨i, _, _, h2 | ⟨h2, h3⟩⟩ := cut_shape l
  · rw [h2]
    exact List.length_pos_iff.2 h
  · rw [h2, List.length_drop]
    omega
def linesF : Nat → List UInt8 → List (List UInt8)
  | 0, _ => []
  | k + 1, l => if l = [] then [] else (cut l [10]).1 :: linesF k (cut l [10]).2.1
def linesOf (l : List UInt8) : List (List UInt8) := linesF l.length l
theorem linesF_fuel : ∀ (k : Nat) (l : List UInt8), l.length ≤ k → linesF k l = linesOf l
  | 0, l, h => by
    have : l = [] := List.length_eq_zero_iff.1 (by omega)
    subst this
    rfl
  | k + 1, l, h => by
    unfold linesOf
    by_cases hl : l = []
    · subst hl
      rfl
    · have hc := cut_len l hl
      obtain ⟨m, hm⟩ : ∃ m, l.length = m + 1 := ⟨l.length - 1, by omega⟩
      rw [hm]
      simp only [linesF, if_neg hl]
      rw [linesF_fuel k _ (by omega), linesF_fuel m _ (by omega)]
termination_by k l => k + l.length
decreasing_by all_goals simp_wf; omega
theorem linesOf_nil : linesOf [] = [] := rfl
theorem linesOf_cons {l : List UInt8} (h : l ≠ []) : linesOf l = (cut l [10]).1 :: linesOf (cut l [10]).2.1 := by
  have hc := cut_len l h
  obtain ⟨m, hm⟩ : ∃ m, l.length = m + 1 := ⟨l.length - 1, by omega⟩
  unfold linesOf
  rw [hm]
  simp only [linesF, if_neg h]
  rw [linesF_fuel m _ (by omega)]
  rfl
theorem linesOf_len (l : List UInt8) : (linesOf l).length ≤ l.length := by
  have h : ∀ (n : Nat) (l : List UInt8), l.length = n → (linesOf l).length ≤ l.length := by
    intro n
    induction n using Nat.strongRecOn with
    | _ n ih =>
      intro l hn
      by_cases hl : l = []
      · subst hl; exact Nat.le_refl _
      · have hc := cut_len l hl
        rw [linesOf_cons hl, List.length_cons]
        have := ih (cut l [10]).2.1.length (by omega) _ rfl
        omega
  exact h _ l rfl
theorem linesOf_line (l : List UInt8) : ∀ x ∈ linesOf l, x.length ≤ l.length := by
  have h : ∀ (n : Nat) (l : List UInt8), l.length = n → ∀ x ∈ linesOf l, x.length ≤ l.length := by
    intro n
    induction n using Nat.strongRecOn with
    | _ n ih =>
      intro l hn x hx
      by_cases hl : l = []
      · subst hl; simp [linesOf_nil] at hx
      · have hc := cut_len l hl
        rw [linesOf_cons hl] at hx
        rcases List.mem_cons.1 hx with rfl | hx
        · obtain ⟨i, _, h1, _⟩ := cut_shape l
          rw [h1, List.length_take]
          omega
        · have := ih (cut l [10]).2.1.length (by omega) _ rfl x hx
          omega
  exact h _ l rfl
def toB (l : List UInt8) : ByteArray := ⟨l.toArray⟩
def spaceB : ByteArray := ⟨#[32]⟩
/-- The words of a line. -/
def wordsB (s : ByteArray) : List ByteArray := splitB spaceB 0 (countB s spaceB) s
def words (l : List UInt8) : List ByteArray := wordsB (toB l)
theorem words_len (l : List UInt8) : (words l).length = countB (toB l) spaceB + 1 := splitB_all spaceB (by decide) 0 _ _ rfl
theorem splitB_size (sep : ByteArray) : ∀ (k : Nat) (s : ByteArray), ∀ x ∈ splitB sep 0 k s, x.size ≤ s.size
  | 0, s, x, hx => by
    rw [splitB_zero] at hx
    rw [List.mem_singleton.1 hx]
    exact Nat.le_refl _
  | k + 1, s, x, hx => by
    unfold splitB at hx
    split at hx
    · rw [List.mem_singleton.1 hx]
      exact Nat.le_refl _
    · rcases List.mem_cons.1 hx with rfl | hx
      · simp [ByteArray.size_extract]; omega
      · have := splitB_size sep k _ x hx
        simp [ByteArray.size_extract] at this
        omega
theorem words_size (l : List UInt8) : ∀ x ∈ words l, x.size ≤ l.length := fun x hx => by
  have := splitB_size _ _ _ x hx
  exact this
theorem words_pos (l : List UInt8) : 1 ≤ (words l).length := by rw [words_len]; omega
theorem countB_le (s : ByteArray) : countB s spaceB ≤ s.size + 1 := by
  have h : ∀ (f : Nat) (l : List UInt8), countFrom spaceB.data.toList f l ≤ f := by
    intro f
    induction f with
    | zero => intro l; exact Nat.le_refl _
    | succ f ih =>
      intro l
      unfold countFrom
      split
      · omega
      · have := ih (l.drop ((index l spaceB.data.toList).toNat + spaceB.data.toList.length))
        omega
  have := h (s.data.toList.length + 1) s.data.toList
  exact this
/-- What the loop of Parse holds. -/
structure PP where
  first : Bool
  n : Int
  cls : List (List Int)
def wordAt (l : List UInt8) (i : Nat) : ByteArray := (words l).getD i ByteArray.empty
def lineLits (l : List UInt8) : List Int := (words l).dropLast.map fun w => atoiV w.data.toList
theorem lineLits_len (l : List UInt8) : (lineLits l).length = (words l).length - 1 := by simp [lineLits]
theorem lineLits_step (l : List UInt8) (x : Nat) (h : x + 1 < (words l).length) : (lineLits l).take (x + 1) = (lineLits l).take x ++ [atoiV (wordAt l x).data.toList] := by
  have hl : x < (lineLits l).length := by rw [lineLits_len]; omega
  rw [List.take_add_one, List.getElem?_eq_getElem hl]
  congr 1
  simp only [Option.toList, lineLits, List.getElem_map, List.getElem_dropLast]
  unfold wordAt
  rw [List.getD_eq_getElem?_getD, List.getElem?_eq_getElem (show x < (words l).length by omega)]
  rfl
def PP.step (s : PP) (l : List UInt8) : Option PP :=
  if s.first = true then (if (words l).length = 4 then some ⟨false, atoiV (wordAt l 2).data.toList, s.cls⟩ else none) else some ⟨false, s.n, s.cls ++ [lineLits l]⟩
def PP.run : PP → List (List UInt8) → Option PP
  | s, [] => some s
  | s, l :: t => (s.step l).bind fun s' => s'.run t
def parseC (text : List UInt8) : Int × List (List Int) × Int :=
  match PP.run ⟨true, 0, []⟩ (linesOf text) with
  | none => (0, [], 3)
  | some s => if text = [] ∨ formatC s.n s.cls ≠ text then (0, [], 3) else (s.n, s.cls, 0)
end Go.Proofs.YteaohgebocbehaaGreatDoor.Plain
end
section
/- The set of unit propagation as plain lists, and what its steps keep. No program, no condition. -/
set_option linter.unusedVariables false
set_option linter.unusedSimpArgs false
namespace Go.Proofs.YteaohgebocbehaaGreatDoor.Plain
open Go.RowKit Go.Proofs.YteaohgebocbehaaGreatDoorW.PrintWords
/-- The set of unit propagation, as plain lists. -/
structure PS where
  value : List Int
  places : List (List Int)
  left : List Int
  list : List Int
  fails : Bool
def PS.add (s : PS) (l : Int) : PS :=
  if rd s.value (l.natAbs : Int) = 0 then { s with value := s.value.set l.natAbs l, list := s.list ++ [l] }
  else if rd s.value (l.natAbs : Int) = -l then { s with fails := true } else s
def PS.look (cl : List (List Int)) (s : PS) (c : Int) : PS :=
  if rd s.left c = 0 then { s with fails := true }
  else if rd s.left c = 1 then (match (cl.getD c.toNat []).find? fun l => decide (rd s.value (l.natAbs : Int) ≠ -l) with
    | some l => s.add l
    | none => s) else s
/-- The place of a literal in lists. -/
def idx (l : Int) : Nat := (if l < 0 then -2 * l + 1 else 2 * l).toNat
def PS.place (i : Int) (s : PS) (l : Int) : PS := { s with places := s.places.set (idx l) (s.places.getD (idx l) [] ++ [i]) }
def PS.clause (s : PS) (i : Int) (c : List Int) : PS := c.foldl (PS.place i) { s with left := s.left ++ [(c.length : Int)] }
def fillFrom : PS → Int → List (List Int) → PS
  | s, _, [] => s
  | s, i, c :: t => fillFrom (s.clause i c) (i + 1) t
def PS.tryC (cl : List (List Int)) (s : PS) (i : Int) : PS := if rd s.left i < 2 then s.look cl i else s
def PS.tryFrom (cl : List (List Int)) : Nat → PS → Int → PS
  | 0, s, _ => s
  | d + 1, s, i => PS.tryFrom cl d (s.tryC cl i) (i + 1)
def PS.dec (cl : List (List Int)) (s : PS) (c : Int) : PS := PS.tryC cl { s with left := s.left.set c.toNat (wrap64 (rd s.left c - 1)) } c
def PS.run (cl : List (List Int)) : Nat → PS → Int → PS
  | 0, s, _ => s
  | f + 1, s, k => if k < (s.list.length : Int) ∧ s.fails = false then PS.run cl f ((s.places.getD (idx (-(rd s.list k))) []).foldl (PS.dec cl) s) (k + 1) else s
def PS.init (n : Int) : PS := { value := List.replicate (n + 1).toNat 0, places := List.replicate (2 * n + 2).toNat [], left := [], list := [], fails := false }
def startOk (n l : Int) : Bool := decide (l ≠ 0 ∧ -n ≤ l ∧ l ≤ n)
/-- What propagation leaves of its set. -/
def propS (n : Int) (cl : List (List Int)) (start : List Int) : PS :=
  PS.run cl (n + 1).toNat (PS.tryFrom cl cl.length (start.foldl PS.add (fillFrom (PS.init n) 0 cl)) 0) 0
/-- What every step keeps: n variables, m clauses. -/
structure SInv (n : Int) (m : Nat) (s : PS) : Prop where
  val : (s.value.length : Int) = n + 1
  cnt : ((s.list.length + s.value.count 0 : Nat) : Int) ≤ n + 1
  lits : ∀ l ∈ s.list, 1 ≤ l.natAbs ∧ (l.natAbs : Int) ≤ n
  left : s.left.length = m
  pl : (s.places.length : Int) = 2 * n + 2
  idx : ∀ p ∈ s.places, ∀ c ∈ p, 0 ≤ c ∧ c < (m : Int)
theorem SInv.fail {n : Int} {m : Nat} {s : PS} (h : SInv n m s) : SInv n m { s with fails := true } := ⟨h.val, h.cnt, h.lits, h.left, h.pl, h.idx⟩
theorem SInv.add {n : Int} {m : Nat} {s : PS} (h : SInv n m s) {l : Int} (h1 : 1 ≤ l.natAbs) (h2 : (l.natAbs : Int) ≤ n) : SInv n m (s.add l) := by
  unfold PS.add
  have hv := h.val
  have hlt : l.natAbs < s.value.length := by omega
  split
  · rename_i h0
    refine ⟨by simpa using h.val, ?_, ?_, h.left, h.pl, h.idx⟩
    · have hz : s.value[l.natAbs] = 0 := by
        rw [rd_get (by omega) (by omega)] at h0
        simpa using h0
      have hc : (s.value.set l.natAbs l).count 0 = s.value.count 0 - 1 := by
        rw [List.count_set hlt]
        have : (l == 0) = false := by simp; omega
        simp [hz, this]
      have hpos : 0 < s.value.count 0 := List.count_pos_iff.2 (by rw [← hz]; exact List.getElem_mem hlt)
      have := h.cnt
      simp only [List.length_append, List.length_singleton, hc]
      omega
    · intro x hx
      rcases List.mem_append.1 hx with hx | hx
      · exact h.lits x hx
      · rw [List.mem_singleton.1 hx]; exact ⟨h1, h2⟩
  · split
    · exact h.fail
    · exact h
theorem SInv.look {n : Int} {m : Nat} {s : PS} (h : SInv n m s) {cl : List (List Int)} (hcl : ∀ c ∈ cl, clauseOk n c = true) (c : Int) : SInv n m (s.look cl c) := by
  unfold PS.look
  split
  · exact h.fail
  · split
    · split
      · rename_i l hl
        have hm := List.mem_of_find?_eq_some hl
        by_cases hc : c.toNat < cl.length
        · rw [List.getD, List.getElem?_eq_getElem hc] at hm
          have := ((clauseOk_iff n _).1 (hcl _ (List.getElem_mem hc))).2 l hm
          exact h.add (by omega) (by omega)
        · rw [List.getD, List.getElem?_eq_none (by omega)] at hm
          cases hm
      · exact h
    · exact h
theorem SInv.tryC {n : Int} {m : Nat} {s : PS} (h : SInv n m s) {cl : List (List Int)} (hcl : ∀ c ∈ cl, clauseOk n c = true) (c : Int) : SInv n m (s.tryC cl c) := by
  unfold PS.tryC
  split
  · exact h.look hcl c
  · exact h
theorem SInv.leftSet {n : Int} {m : Nat} {s : PS} (h : SInv n m s) (i : Nat) (x : Int) : SInv n m { s with left := s.left.set i x } := ⟨h.val, h.cnt, h.lits, by simpa using h.left, h.pl, h.idx⟩
theorem SInv.dec {n : Int} {m : Nat} {s : PS} (h : SInv n m s) {cl : List (List Int)} (hcl : ∀ c ∈ cl, clauseOk n c = true) (c : Int) : SInv n m (s.dec cl c) := (h.leftSet _ _).tryC hcl c
theorem SInv.list_le {n : Int} {m : Nat} {s : PS} (h : SInv n m s) : (s.list.length : Int) ≤ n + 1 := by have := h.cnt; omega
theorem run_stop (cl : List (List Int)) (d : Nat) (s : PS) (k : Int) (h : ¬ (k < (s.list.length : Int) ∧ s.fails = false)) : PS.run cl d s k = s := by
  cases d with
  | zero => rfl
  | succ d => unfold PS.run; rw [if_neg h]
theorem run_go (cl : List (List Int)) (d : Nat) (s : PS) (k : Int) (h : k < (s.list.length : Int) ∧ s.fails = false) : PS.run cl (d + 1) s k = PS.run cl d ((s.places.getD (idx (-(rd s.list k))) []).foldl (PS.dec cl) s) (k + 1) := by
  rw [PS.run, if_pos h]
theorem add_places (s : PS) (l : Int) : (s.add l).places = s.places := by unfold PS.add; split; rfl; split <;> rfl
theorem look_places (cl : List (List Int)) (s : PS) (c : Int) : (s.look cl c).places = s.places := by
  unfold PS.look
  split
  · rfl
  · split
    · split
      · exact add_places _ _
      · rfl
    · rfl
theorem tryC_places (cl : List (List Int)) (s : PS) (c : Int) : (s.tryC cl c).places = s.places := by
  unfold PS.tryC
  split
  · exact look_places _ _ _
  · rfl
theorem dec_places (cl : List (List Int)) (s : PS) (c : Int) : (s.dec cl c).places = s.places := tryC_places _ _ _
/-- What the first loops make. -/
theorem fill_inv {n : Int} (h0 : 0 ≤ n) (M : Nat) : ∀ (cl : List (List Int)) (s : PS) (i : Int), (∀ c ∈ cl, clauseOk n c = true) → 0 ≤ i → i + cl.length = M → (s.left.length : Int) = i → (s.places.length : Int) = 2 * n + 2 → (∀ p ∈ s.places, ∀ c ∈ p, 0 ≤ c ∧ c < (M : Int)) →
    (fillFrom s i cl).left.length = M ∧ ((fillFrom s i cl).places.length : Int) = 2 * n + 2 ∧ (∀ p ∈ (fillFrom s i cl).places, ∀ c ∈ p, 0 ≤ c ∧ c < (M : Int)) ∧ (fillFrom s i cl).value = s.value ∧ (fillFrom s i cl).list = s.list ∧ (fillFrom s i cl).fails = s.fails
  | [], s, i, _, _, hM, hl, hp, hi => by
    simp only [fillFrom]
    exact ⟨by simp at hM; omega, hp, hi, by trivial, by trivial, by trivial⟩
  | c :: t, s, i, hcl, hi0, hM, hl, hp, hi => by
    have key : ∀ (d : List Int) (s : PS), (s.places.length : Int) = 2 * n + 2 → (∀ p ∈ s.places, ∀ c ∈ p, 0 ≤ c ∧ c < (M : Int)) →
        ((d.foldl (PS.place i) s).places.length : Int) = 2 * n + 2 ∧ (∀ p ∈ (d.foldl (PS.place i) s).places, ∀ c ∈ p, 0 ≤ c ∧ c < (M : Int)) ∧ (d.foldl (PS.place i) s).left = s.left ∧ (d.foldl (PS.place i) s).value = s.value ∧ (d.foldl (PS.place i) s).list = s.list ∧ (d.foldl (PS.place i) s).fails = s.fails := by
      intro d
      induction d with
      | nil => intro s h1 h2; exact ⟨h1, h2, rfl, rfl, rfl, rfl⟩
      | cons x d ih =>
        intro s h1 h2
        have h3 := ih (s.place i x) (by simpa [PS.place] using h1) (by
          intro p hp c hc
          simp only [PS.place] at hp
          rcases List.mem_or_eq_of_mem_set hp with h | h
          · exact h2 p h c hc
          · rw [h] at hc
            rcases List.mem_append.1 hc with hc | hc
            · by_cases hk : idx x < s.places.length
              · rw [List.getD, List.getElem?_eq_getElem hk] at hc
                exact h2 _ (List.getElem_mem hk) c hc
              · rw [List.getD, List.getElem?_eq_none (by omega)] at hc
                cases hc
            · rw [List.mem_singleton.1 hc]
              simp only [List.length_cons] at hM
              omega)
        exact ⟨h3.1, h3.2.1, h3.2.2.1.trans rfl, h3.2.2.2.1.trans rfl, h3.2.2.2.2.1.trans rfl, h3.2.2.2.2.2.trans rfl⟩
    obtain ⟨k1, k2, k3, k4, k5, k6⟩ := key c { s with left := s.left ++ [(c.length : Int)] } hp hi
    have ih := fill_inv h0 M t (s.clause i c) (i + 1) (fun c hc => hcl c (List.mem_cons_of_mem _ hc)) (by omega) (by simp only [List.length_cons] at hM; omega) (by unfold PS.clause; rw [k3]; simp; omega) k1 k2
    simp only [fillFrom]
    unfold PS.clause at ih ⊢
    exact ⟨ih.1, ih.2.1, ih.2.2.1, ih.2.2.2.1.trans k4, ih.2.2.2.2.1.trans k5, ih.2.2.2.2.2.trans k6⟩
theorem fill_SInv {n : Int} (h0 : 0 ≤ n) {cl : List (List Int)} (hcl : ∀ c ∈ cl, clauseOk n c = true) : SInv n cl.length (fillFrom (PS.init n) 0 cl) := by
  obtain ⟨h1, h2, h3, h4, h5, h6⟩ := fill_inv h0 cl.length cl (PS.init n) 0 hcl (by omega) (by omega) rfl (by simp [PS.init]; omega) (fun p hp c hc => by
    have := List.eq_of_mem_replicate hp
    subst this
    cases hc)
  refine ⟨by rw [h4]; simp [PS.init]; omega, ?_, (by rw [h5]; intro l hl; cases hl), h1, h2, h3⟩
  rw [h4, h5]
  simp only [PS.init, List.length_nil, List.count_replicate_self]
  omega
end Go.Proofs.YteaohgebocbehaaGreatDoor.Plain
end
section
/- A family of rows of a call's own, no two in one block: what reads, stores and appends leave of it. No program, no condition. -/
set_option linter.unusedVariables false
set_option linter.unusedSimpArgs false
namespace Go.Proofs.YteaohgebocbehaaGreatDoor.Fam
open Go.RowKit Go.Proofs.YteaohgebocbehaaGreatDoorW.PrintWords Go.Proofs.YteaohgebocbehaaGreatDoorW.PrintLast Go.Proofs.YteaohgebocbehaaGreatDoorW.PrintMore

def upd {ι α : Type} [DecidableEq ι] (f : ι → α) (i : ι) (a : α) : ι → α := fun j => if j = i then a else f j
theorem upd_same {ι α : Type} [DecidableEq ι] (f : ι → α) (i : ι) (a : α) : upd f i a i = a := by simp [upd]
theorem upd_other {ι α : Type} [DecidableEq ι] (f : ι → α) (i j : ι) (a : α) (h : j ≠ i) : upd f i a j = f j := by simp [upd, h]

structure Fam {ι : Type} (W : World) (B : Nat) (ty : ι → TypeId) (vs : ι → Value) (xs : ι → List Value) : Prop where
  row : ∀ i, W.ownsRow B (ty i) 1 (vs i) (xs i).length (xs i)
  apart : ∀ i j, i ≠ j → NeRow (vs i) (vs j)
variable {ι : Type} {W W1 : World} {B : Nat} {ty : ι → TypeId} {vs : ι → Value} {xs : ι → List Value}

theorem Fam.move (h : Fam W B ty vs xs) (hm : ∀ i k, (vs i).ownBlock = some k → W1.heap[k]? = W.heap[k]?) : Fam W1 B ty vs xs := ⟨fun i => own_move (h.row i) (hm i), h.apart⟩
theorem Fam.below (h : Fam W B ty vs xs) (hb : Below W.heap.size W W1) : Fam W1 B ty vs xs := h.move fun i k hk => hb.block k (own_lt (h.row i) k hk)
theorem Fam.grown (h : Fam W B ty vs xs) {row : Option Nat} (hg : W.grownBy W1 row) (hr : ∀ i k, (vs i).ownBlock = some k → some k ≠ row) : Fam W1 B ty vs xs := h.move fun i k hk => hg.block k (own_lt (h.row i) k hk) (hr i k hk)
theorem Fam.far (h : Fam W B ty vs xs) {p : Addr} (hp : ∀ i, (vs i).ownBlock ≠ some p.block) (u : Value) : Fam (W.setCell p u) B ty vs xs :=
  h.move fun i k hk => Below.heap_setCell W p u k (fun e => hp i (by rw [hk, e]))
theorem Fam.ne_blk (h : Fam W B ty vs xs) {g : Nat} {cs : Array Value} {T : TypeId} (hg : W.heap[g]? = some (.cells cs T (0, 0))) (hT : ∀ i, ty i ≠ T) (i : ι) : (vs i).ownBlock ≠ some g := fun e => own_ne (h.row i) hg (hT i) e.symm
theorem Fam.lower {B' : Nat} (h : Fam W B ty vs xs) (hB : B' ≤ B) : Fam W B' ty vs xs := ⟨fun i => own_weaken (h.row i) hB, h.apart⟩
/-- What a row looks like. -/
theorem Fam.shape (h : Fam W B ty vs xs) (i : ι) : (vs i = .slice none 0 0 ∧ xs i = []) ∨ ∃ g cap cur, vs i = .slice (some ⟨g, 0, none⟩) (xs i).length cap ∧ B ≤ g ∧ W.heap[g]? = some (.cells cur (ty i) (0, 0)) ∧ (xs i).length ≤ cap ∧ cap ≤ 9223372036854775807 ∧ cur.size = cap ∧ cur.toList.take (xs i).length = xs i := by
  rcases (h.row i).2 with ⟨e, h0⟩ | ⟨g, cap, cur, e, hb, hg, hn, hm, hs, ht⟩
  · exact .inl ⟨e, List.eq_nil_of_length_eq_zero h0⟩
  · exact .inr ⟨g, cap, cur, e, hb, hg, hn, by simpa [maxLen] using hm, by omega, by simpa using ht⟩
theorem take_get {cur : Array Value} {l : List Value} (ht : cur.toList.take l.length = l) {j : Nat} (hj : j < l.length) : cur[j]? = l[j]? := by
  have h : (cur.toList.take l.length)[j]? = l[j]? := by rw [ht]
  rw [List.getElem?_take, if_pos hj, Array.getElem?_toList] at h
  exact h
/-- A row that is not empty, laid open. -/
theorem Fam.open_ (h : Fam W B ty vs xs) (i : ι) (h0 : 0 < (xs i).length) : ∃ g cap cur, vs i = .slice (some ⟨g, 0, none⟩) (xs i).length cap ∧ B ≤ g ∧ W.heap[g]? = some (.cells cur (ty i) (0, 0)) ∧ cur.size = cap ∧ (xs i).length ≤ cap ∧
    (∀ j, j < (xs i).length → W.cell? ⟨g, j, none⟩ = (xs i)[j]? ∧ W.frozen? ⟨g, j, none⟩ = false) := by
  rcases h.shape i with ⟨_, e⟩ | ⟨g, cap, cur, e, hb, hg, hn, hm, hs, ht⟩
  · rw [e] at h0; simp at h0
  · exact ⟨g, cap, cur, e, hb, hg, hs, hn, fun j hj => ⟨by rw [blk_cell hg, take_get ht hj], blk_frozen hg j⟩⟩

theorem Fam.congr {vs' : ι → Value} {xs' : ι → List Value} (h : Fam W B ty vs xs) (h1 : ∀ i, vs i = vs' i) (h2 : ∀ i, xs i = xs' i) : Fam W B ty vs' xs' := by
  have e1 : vs = vs' := funext h1
  have e2 : xs = xs' := funext h2
  rw [← e1, ← e2]; exact h
/-- All rows nil. -/
theorem Fam.nil (W : World) (B : Nat) (ty : ι → TypeId) : Fam W B ty (fun _ => .slice none 0 0) (fun _ => []) := ⟨fun i => own_nil _ _ _ _, fun _ _ _ => ne_nil _⟩

variable [DecidableEq ι]
/-- One element stored. -/
theorem Fam.store (h : Fam W B ty vs xs) (i : ι) {g cap n : Nat} (hv : vs i = .slice (some ⟨g, 0, none⟩) n cap) (j : Nat) (u : Value) : Fam (W.setCell ⟨g, j, none⟩ u) B ty vs (upd xs i ((xs i).set j u)) := by
  refine ⟨fun k => ?_, h.apart⟩
  by_cases e : k = i
  · subst e
    rw [upd_same, List.length_set]
    have hr := h.row k
    have hn : n = (xs k).length := by
      rcases h.shape k with ⟨e, _⟩ | ⟨_, _, _, e, _⟩
      · rw [hv] at e; cases e
      · rw [hv] at e; injection e
    rw [hv, hn] at hr ⊢
    exact (hr.stored j u).1
  · rw [upd_other _ _ _ _ e]
    refine own_move (h.row k) fun b hb => Below.heap_setCell W _ u b fun e2 => ?_
    refine h.apart k i e b hb ?_
    rw [hv, e2]
    rfl
/-- A row has grown, or moved. -/
theorem Fam.append (h : Fam W B ty vs xs) (i : ι) {v1 : Value} {l : List Value} (ho : W1.ownsRow B (ty i) 1 v1 l.length l) (hg : W.grownBy W1 (vs i).ownBlock) (hat : v1.ownBlock = (vs i).ownBlock ∨ ∃ b, v1.ownBlock = some b ∧ W.heap.size ≤ b) :
    Fam W1 B ty (upd vs i v1) (upd xs i l) := by
  refine ⟨fun k => ?_, fun k m hkm => ?_⟩
  · by_cases e : k = i
    · subst e; rw [upd_same, upd_same]; exact ho
    · rw [upd_other _ _ _ _ e, upd_other _ _ _ _ e]
      exact own_other (h.row k) hg (ne_other (ne_symm (h.apart k i e)))
  · by_cases e : k = i
    · subst e
      rw [upd_same, upd_other _ _ _ _ (Ne.symm hkm)]
      exact ne_append (h.apart k m hkm) hat (h.row m)
    · by_cases e2 : m = i
      · subst e2
        rw [upd_same, upd_other _ _ _ _ hkm]
        exact ne_append' (h.apart k m hkm) hat (h.row k)
      · rw [upd_other _ _ _ _ e, upd_other _ _ _ _ e2]
        exact h.apart k m hkm
/-- A row set anew: in a block that is new since W. -/
theorem Fam.fresh (h : Fam W B ty vs xs) (i : ι) {v1 : Value} {l : List Value} (hb : Below W.heap.size W W1) (ho : W1.ownsRow B (ty i) 1 v1 l.length l) (hnew : ∀ k, v1.ownBlock = some k → W.heap.size ≤ k) : Fam W1 B ty (upd vs i v1) (upd xs i l) := by
  refine ⟨fun k => ?_, fun k m hkm => ?_⟩
  · by_cases e : k = i
    · subst e; rw [upd_same, upd_same]; exact ho
    · rw [upd_other _ _ _ _ e, upd_other _ _ _ _ e]
      exact pw_own_below (h.row k) hb
  · have key : ∀ m, NeRow v1 (vs m) := fun m k hk hk' => by
      have h1 := hnew k hk
      have h2 := own_lt (h.row m) k hk'
      omega
    by_cases e : k = i
    · subst e
      rw [upd_same, upd_other _ _ _ _ (Ne.symm hkm)]
      exact key m
    · by_cases e2 : m = i
      · subst e2
        rw [upd_same, upd_other _ _ _ _ hkm]
        exact ne_symm (key k)
      · rw [upd_other _ _ _ _ e, upd_other _ _ _ _ e2]
        exact h.apart k m hkm

section
variable {P : Program} {ops : Array Oper} {rest : List Oper} {o : Oper} {a : Act} {Q : Exit → Act → World → Prop}
/-- A store of one cell into a block that is known, as an event. -/
theorem st_cell {W : World} (hN : o.dst = none) (hgd : o.guard = none) (t : TypeId) (p x : Operand) (ho : o.op = .store t p x) {g i : Nat} {T : TypeId} {cur : Array Value} {u : Value} (haddr : a.eval p = .pointer (some ⟨g, i, none⟩)) (hx : a.eval x = u)
    (ht : (P.info? t).map (·.size) = some 1) (hu : u.cells = #[u]) (h1 : u.oneCell' = true) (hh : W.heap[g]? = some (.cells cur T (0, 0))) (hi : i < cur.size) (h : ∀ w1, w1 = W.setCell ⟨g, i, none⟩ u → wpList P ops Q rest a w1) : wpList P ops Q (o :: rest) a W := by
  have hrun : (Instr.storeAt t (.pointer (some ⟨g, i, none⟩)) u).run P W = .ok () (W.setCell ⟨g, i, none⟩ u) := run_store_run t u [u] hh (by rw [hu]) (by simpa using ht) (by show i + 1 ≤ _; omega) (by simpa using h1)
  refine wpList_plain hgd fun K hK => ?_
  unfold Oper.wp execOp
  simp only [ho, haddr, hx, Sem.run_bind, Sem.run_pure, Result.andThen_ok, hrun]
  show K (a.put o.dst undef) _
  rw [hN]
  exact hK a _ (h _ rfl)
end
end Go.Proofs.YteaohgebocbehaaGreatDoor.Fam
end
section
/- cnf.Propagate's set of literals: what its methods add and look do to it. Conditions as written in each. -/
set_option linter.unusedVariables false
set_option linter.unusedSimpArgs false
namespace Go.Proofs.YteaohgebocbehaaGreatDoor.Hand
open Go.RowKit Go.Lib Go.Shelf Go.Proofs.YteaohgebocbehaaGreatDoorW Go.Proofs.YteaohgebocbehaaGreatDoorW.PrintWords Go.Proofs.YteaohgebocbehaaGreatDoorW.PrintLast Go.Proofs.YteaohgebocbehaaGreatDoorW.PrintMore Go.Proofs.YteaohgebocbehaaGreatDoor.Plain Go.Proofs.YteaohgebocbehaaGreatDoor.XA Go.Proofs.YteaohgebocbehaaGreatDoor.Fam
attribute [local go_sem] max2_int min2_int max_two min_two max_three min_three max_four min_four
theorem int_size : (Tryz.prog.info? 3).map (·.size) = some 1 := by kernel_rfl
theorem ints_size : (Tryz.prog.info? 25).map (·.size) = some 1 := by kernel_rfl
theorem bool_size : (Tryz.prog.info? 4).map (·.size) = some 1 := by kernel_rfl
theorem int_info : (Tryz.prog.info? 3).map (fun i => (i.zero, i.size, i.bytes)) = some (some (.int .i64 0), 1, 8) := by kernel_rfl
abbrev nI (l : List Int) : List Value := nums .i64 l
def sty : Nat → TypeId
  | 0 => 25
  | _ => 3
def sxs (s : PS) (vs : Nat → Value) : Nat → List Value
  | 0 => (List.range s.places.length).map fun i => vs (i + 4)
  | 1 => nI s.value
  | 2 => nI s.left
  | 3 => nI s.list
  | i + 4 => nI (s.places.getD i [])
structure SetSt (w W : World) (gs : Nat) (n : Int) (C : Value) (s : PS) (vs : Nat → Value) : Prop where
  box : W.heap[gs]? = some (.cells #[.int .i64 n, C, vs 1, vs 0, vs 2, vs 3, .bool s.fails] 74 (0, 0))
  fam : Fam W w.heap.size sty vs (sxs s vs)
  below : Below w.heap.size w W
  ge : w.heap.size ≤ gs
def SetOk (w W : World) (gs : Nat) (n : Int) (C : Value) (s : PS) : Prop := ∃ vs, SetSt w W gs n C s vs
/-- The rows but for the list's are where they were. -/
def SetOk2 (w W : World) (gs : Nat) (n : Int) (C : Value) (s : PS) (ks : Nat → Value) : Prop := ∃ vs, SetSt w W gs n C s vs ∧ ∀ i, i ≠ 3 → vs i = ks i
theorem sty_ne (i : Nat) : sty i ≠ 74 := by
  unfold sty
  split <;> decide
theorem nI_get {l : List Int} {j : Nat} (hj : j < l.length) : (nI l)[j]? = some (.int .i64 (PrintWords.rd l (j : Int))) := by
  simp [nI, nums, PrintWords.rd, List.getElem?_eq_getElem hj, List.getD]
theorem nI_set (l : List Int) (j : Nat) (x : Int) : (nI l).set j (.int .i64 x) = nI (l.set j x) := by simp [nI, nums, List.map_set]
theorem nI_length (l : List Int) : (nI l).length = l.length := by simp [nI, nums]
theorem SetSt.blk {w W : World} {gs : Nat} {n : Int} {C : Value} {s : PS} {vs : Nat → Value} (h : SetSt w W gs n C s vs) (i : Nat) : (vs i).ownBlock ≠ some gs := h.fam.ne_blk h.box sty_ne i
/-- The value row laid open. -/
theorem SetSt.val {w W : World} {gs : Nat} {n : Int} {C : Value} {s : PS} {vs : Nat → Value} (h : SetSt w W gs n C s vs) (h0 : 0 < s.value.length) : ∃ g cap cur, vs 1 = .slice (some ⟨g, 0, none⟩) s.value.length cap ∧ w.heap.size ≤ g ∧ g ≠ gs ∧ W.heap[g]? = some (.cells cur 3 (0, 0)) ∧ s.value.length ≤ cur.size ∧
    (∀ j, j < s.value.length → W.cell? ⟨g, j, none⟩ = some (.int .i64 (PrintWords.rd s.value (j : Int))) ∧ W.frozen? ⟨g, j, none⟩ = false) := by
  obtain ⟨g, cap, cur, e, hb, hg, hs, hn, hc⟩ := h.fam.open_ 1 (by show 0 < (nI s.value).length; rw [nI_length]; exact h0)
  have e2 : (sxs s vs 1).length = s.value.length := nI_length _
  rw [e2] at e hn hc
  refine ⟨g, cap, cur, e, hb, fun e3 => h.blk 1 (by rw [e, e3]; rfl), hg, by omega, fun j hj => ⟨?_, (hc j hj).2⟩⟩
  rw [(hc j hj).1]
  exact nI_get hj
theorem sxs_congr {s s' : PS} {vs : Nat → Value} (h1 : s.value = s'.value) (h2 : s.places = s'.places) (h3 : s.left = s'.left) (h4 : s.list = s'.list) : ∀ i, sxs s vs i = sxs s' vs i
  | 0 => by simp only [sxs, h2]
  | 1 => by simp only [sxs, h1]
  | 2 => by simp only [sxs, h3]
  | 3 => by simp only [sxs, h4]
  | i + 4 => by simp only [sxs, h2]
theorem SetSt.fail {w W : World} {gs : Nat} {n : Int} {C : Value} {s : PS} {vs : Nat → Value} (h : SetSt w W gs n C s vs) : SetSt w (W.setCell ⟨gs, 6, none⟩ (.bool true)) gs n C { s with fails := true } vs :=
  ⟨by simpa using blk_set h.box 6 (.bool true), (h.fam.far (p := ⟨gs, 6, none⟩) (fun i => h.blk i) _).congr (fun _ => rfl) (sxs_congr rfl rfl rfl rfl), h.below.setCell (p := ⟨gs, 6, none⟩) h.ge _, h.ge⟩
theorem SetSt.list_ {w W : World} {gs : Nat} {n : Int} {C : Value} {s : PS} {vs : Nat → Value} (h : SetSt w W gs n C s vs) : kI.R 3 W w.heap.size (fun _ => True) (vs 3) s.list := by
  have h := h.fam.row 3
  rw [show (sxs s vs 3).length = s.list.length from nI_length _] at h
  exact Kd.R_of_own h (fun _ _ => trivial)
/-- A value stored. -/
theorem SetSt.value_ {w W : World} {gs : Nat} {n : Int} {C : Value} {s : PS} {vs : Nat → Value} (h : SetSt w W gs n C s vs) {g k cap : Nat} (hv : vs 1 = .slice (some ⟨g, 0, none⟩) k cap) (hne : g ≠ gs) (hge : w.heap.size ≤ g) (j : Nat) (x : Int) :
    SetSt w (W.setCell ⟨g, j, none⟩ (.int .i64 x)) gs n C { s with value := s.value.set j x } vs := by
  refine ⟨blk_far h.box (p := ⟨g, j, none⟩) (Ne.symm hne) _, (h.fam.store 1 hv j (.int .i64 x)).congr (fun _ => rfl) ?_, h.below.setCell (p := ⟨g, j, none⟩) hge _, h.ge⟩
  intro i
  by_cases e : i = 1
  · subst e
    rw [upd_same]
    exact nI_set _ _ _
  · rw [upd_other _ _ _ _ e]
    match i, e with
    | 0, _ => rfl
    | 2, _ => rfl
    | 3, _ => rfl
    | i + 4, _ => rfl
/-- The list has grown: its new place is to be stored into the box. -/
theorem SetSt.grow3 {w W W1 : World} {gs : Nat} {n : Int} {C : Value} {s : PS} {vs : Nat → Value} (h : SetSt w W gs n C s vs) {v1 : Value} {x : Int} (ho : kI.R 3 W1 w.heap.size (fun _ => True) v1 (s.list ++ [x])) (hg : W.grownBy W1 (vs 3).ownBlock) (hat : v1.ownBlock = (vs 3).ownBlock ∨ ∃ b, v1.ownBlock = some b ∧ W.heap.size ≤ b) :
    W1.heap[gs]? = some (.cells #[.int .i64 n, C, vs 1, vs 0, vs 2, vs 3, .bool s.fails] 74 (0, 0)) ∧ SetSt w (W1.setCell ⟨gs, 5, none⟩ v1) gs n C { s with list := s.list ++ [x] } (upd vs 3 v1) := by
  have hbox : W1.heap[gs]? = some (.cells #[.int .i64 n, C, vs 1, vs 0, vs 2, vs 3, .bool s.fails] 74 (0, 0)) := blk_grown h.box hg (fun e => h.blk 3 e.symm)
  refine ⟨hbox, ?_⟩
  have hown := Kd.own_of_R ho
  have hF := h.fam.append 3 (v1 := v1) (l := nI (s.list ++ [x])) (W1 := W1) (by rw [nI_length]; exact hown) hg hat
  have hF2 := hF.far (p := ⟨gs, 5, none⟩) (fun i => hF.ne_blk hbox sty_ne i) v1
  refine ⟨?_, hF2.congr (fun _ => rfl) ?_, ?_, h.ge⟩
  · have := blk_set hbox 5 v1
    simpa [upd] using this
  · intro i
    by_cases e : i = 3
    · subst e; rw [upd_same]; rfl
    · rw [upd_other _ _ _ _ e]
      match i, e with
      | 0, _ => simp only [sxs]; exact List.map_congr_left fun j _ => (upd_other _ _ _ _ (by omega)).symm
      | 1, _ => rfl
      | 2, _ => rfl
      | i + 4, _ => rfl
  · exact (h.below.grown hg h.below.size (fun k hk => own_base (h.fam.row 3) k hk)).setCell (p := ⟨gs, 5, none⟩) h.ge _
set_option maxHeartbeats 4000000 in
set_option maxRecDepth 100000 in
theorem add_calls (w W : World) (gs : Nat) (n : Int) (C : Value) (s : PS) (ks : Nat → Value) (l : Int) (h : SetOk2 w W gs n C s ks) (hl : l.natAbs < s.value.length) (hl0 : 1 ≤ l.natAbs) (hb : s.value.length ≤ 1099511627776) (hq : s.list.length ≤ 1099511627776) :
    Calls Tryz.prog 57 #[.pointer (some ⟨gs, 0, none⟩), .int .i64 l] W fun e w' => e = .returned (.tuple #[]) ∧ SetOk2 w w' gs n C (s.add l) ks := by
  obtain ⟨vs, HS, hks⟩ := h
  have HKS := Aside0.mk hks
  clear hks
  obtain ⟨gv, cap, cur, ev, hgb, hgn, hgv, hcs, hcv⟩ := HS.val (by omega)
  have hu := Tryz.underlying74
  have hv := varOf_eq (x := l) (by omega) (by omega)
  obtain ⟨m, hm⟩ : ∃ m : Int, m = l.natAbs := ⟨_, rfl⟩
  have hcall : ∀ W', Calls Tryz.prog 46 #[.int .i64 l] W' fun e w' => e = .returned (.int .i64 m) ∧ w' = W' := fun W' => by
    have h := variable_calls l W'
    rwa [hv, ← hm] at h
  have hbox := HS.box
  rw [ev] at hbox
  have b2 : W.cell? ⟨gs, 2, none⟩ = some (.slice (some ⟨gv, 0, none⟩) s.value.length cap) := (blk_cell hbox 2).trans rfl
  have hmn : m.toNat = l.natAbs := by omega
  have v0 : W.cell? ⟨gv, m.toNat, none⟩ = some (.int .i64 (PrintWords.rd s.value m)) := by rw [hmn, (hcv _ hl).1, hm]
  have v1 : W.frozen? ⟨gv, m.toNat, none⟩ = false := by rw [hmn]; exact (hcv _ hl).2
  have p1 : (0 ≤ m) = True := eq_true (by omega)
  have q1 : (m < (s.value.length : Int)) = True := eq_true (by omega)
  have hadd : s.add l = if PrintWords.rd s.value m = 0 then { s with value := s.value.set l.natAbs l, list := s.list ++ [l] } else if PrintWords.rd s.value m = -l then { s with fails := true } else s := by unfold PS.add; rw [hm]
  have kn : wrap64 (-l) = -l := by unfold wrap64; omega
  have kn2 : IntKind.i64.wrap (-l) = -l := IntWalk.i64_in _ (by omega)
  by_cases hA : PrintWords.rd s.value m = 0
  · rw [if_pos hA] at hadd
    rw [hA] at v0
    have HADD := Aside0.mk hadd
    have HSS := Aside0.mk HS
    have HEV := Aside0.mk ev
    have HG := Aside0.mk (And.intro hgn (And.intro hgb (And.intro hgv (show m.toNat < cur.size by omega))))
    have HM := Aside0.mk (And.intro hm hmn)
    have HQ2 : Aside0 ((s.list.length + 1) * 8 ≤ 140737488355328) := ⟨by omega⟩
    clear hadd hA HS hm hmn hcv hcs hv hbox ev hl hl0 hb hq hgb hgn hgv kn2 kn
    go_enter Tryz.func57, Tryz.ntmps57
    go_wp2_with (first
      | (go_at_call 46; refine (hcall _).mono ?_; rintro e w' ⟨rfl, rfl⟩)
      | ((with_reducible refine gate_ (.store 3 (.tmp 22) (.tmp 21)) rfl ?_); refine Fam.st_cell rfl rfl 3 (.tmp 22) (.tmp 21) rfl (g := gv) (i := m.toNat) (T := 3) (cur := cur) (u := .int .i64 l) rfl rfl int_size rfl rfl HG.out.2.2.1 HG.out.2.2.2 ?_; intro w1 hw1; have HS1 : Aside0 (SetSt w w1 gs n C { s with value := s.value.set l.natAbs l } vs) := ⟨by rw [hw1, HM.out.2]; exact HSS.out.value_ HEV.out HG.out.1 HG.out.2.1 _ _⟩; have b5 : w1.cell? ⟨gs, 5, none⟩ = some (vs 3) := (blk_cell HS1.out.box 5).trans rfl; have HR3 := Aside0.mk (SetSt.list_ HS1.out); clear hw1)
      | (at_builtin; refine Kd.R_append kI (w0 := w) (W := w1) w.heap.size rfl (.tmp 27) (.tmp 29) 25 3 (.int .i64 0) 8 rfl Tryz.underlying25 int_info rfl (by decide) (by omega) (vs 3) s.list l [.int .i64 l] (fun _ => True) (fun _ => False) rfl rfl rfl (fun _ hk => hk.elim) (fun _ _ => trivial) HR3.out HS1.out.below HS1.out.below.size HQ2.out ?_; intro v2 w2 ho hb hg hat; obtain ⟨A2, c2, e2⟩ := Kd.R_slice ho; subst e2; have HN := Aside0.mk (HS1.out.grow3 ho hg hat); have f5 : w2.frozen? ⟨gs, 5, none⟩ = false := blk_frozen HN.out.1 5; have b52 : w2.cell? ⟨gs, 5, none⟩ = some (vs 3) := (blk_cell HN.out.1 5).trans rfl; clear ho hb hg hat))
    go_end0
    have hn := HN.out.2
    rw [show (s.list ++ [l]).length = s.list.length + 1 by simp] at hn
    exact ⟨rfl, by rw [HADD.out]; exact ⟨_, hn, fun i hi => by rw [upd_other _ _ _ _ hi]; exact HKS.out i hi⟩⟩
  · rw [if_neg hA] at hadd
    have t1 : (PrintWords.rd s.value m == 0) = false := beq_eq_false_iff_ne.mpr hA
    by_cases hB : PrintWords.rd s.value m = -l
    · rw [if_pos hB] at hadd
      have t2 : (PrintWords.rd s.value m == wrap64 (-l)) = true := by rw [kn]; exact beq_iff_eq.mpr hB
      have HA := Aside0.mk (And.intro hadd hB)
      have HSS := Aside0.mk HS
      have f6 : W.frozen? ⟨gs, 6, none⟩ = false := blk_frozen hbox 6
      have b6 : W.cell? ⟨gs, 6, none⟩ = some (.bool s.fails) := (blk_cell hbox 6).trans rfl
      clear hadd hA hB HS hm hmn hcv hcs hv hbox ev hl hl0 hb hq hgb hgn hgv kn2 kn
      go_enter Tryz.func57, Tryz.ntmps57
      go_wp2_with (go_at_call 46; refine (hcall _).mono ?_; rintro e w' ⟨rfl, rfl⟩)
      go_end0
      exact ⟨rfl, by rw [HA.out.1]; exact ⟨vs, HSS.out.fail, HKS.out⟩⟩
    · rw [if_neg hB] at hadd
      have t2 : (PrintWords.rd s.value m == wrap64 (-l)) = false := by rw [kn]; exact beq_eq_false_iff_ne.mpr hB
      have HA := Aside0.mk hadd
      have HSS := Aside0.mk HS
      clear hadd hA hB HS hm hmn hcv hcs hv hbox ev hl hl0 hb hq hgb hgn hgv kn2 kn
      go_enter Tryz.func57, Tryz.ntmps57
      go_wp2_with (go_at_call 46; refine (hcall _).mono ?_; rintro e w' ⟨rfl, rfl⟩)
      go_end0
      exact ⟨rfl, by rw [HA.out]; exact ⟨vs, HSS.out, HKS.out⟩⟩
end Go.Proofs.YteaohgebocbehaaGreatDoor.Hand
end
section
/- cnf.Propagate's set of literals: what its method look does to it. Conditions as written in each. -/
set_option linter.unusedVariables false
set_option linter.unusedSimpArgs false
namespace Go.Proofs.YteaohgebocbehaaGreatDoor.Hand
open Go.RowKit Go.Lib Go.Shelf Go.Proofs.YteaohgebocbehaaGreatDoorW Go.Proofs.YteaohgebocbehaaGreatDoorW.PrintWords Go.Proofs.YteaohgebocbehaaGreatDoorW.PrintLast Go.Proofs.YteaohgebocbehaaGreatDoorW.PrintMore Go.Proofs.YteaohgebocbehaaGreatDoor.Plain Go.Proofs.YteaohgebocbehaaGreatDoor.XA Go.Proofs.YteaohgebocbehaaGreatDoor.Fam
attribute [local go_sem] max2_int min2_int max_two min_two max_three min_three max_four min_four
theorem SetSt.later {w W W' : World} {gs : Nat} {n : Int} {C : Value} {s : PS} {vs : Nat → Value} (h : SetSt w W gs n C s vs) (hb : Below W.heap.size W W') : SetSt w W' gs n C s vs :=
  ⟨blk_below h.box hb, h.fam.below hb, below_step h.below hb, h.ge⟩
theorem below_dr (w : World) (n : Nat) : Below w.heap.size w (w.drewN n) := ⟨rfl, rfl, rfl, Nat.le_refl _, fun _ _ => rfl⟩
/-- A row of the set laid open. -/
theorem SetSt.row {w W : World} {gs : Nat} {n : Int} {C : Value} {s : PS} {vs : Nat → Value} (h : SetSt w W gs n C s vs) (i : Nat) (l : List Int) (hl : sxs s vs i = nI l) (hi : sty i = 3) (h0 : 0 < l.length) : ∃ g cap cur, vs i = .slice (some ⟨g, 0, none⟩) l.length cap ∧ w.heap.size ≤ g ∧ g ≠ gs ∧ W.heap[g]? = some (.cells cur 3 (0, 0)) ∧ l.length ≤ cur.size ∧
    (∀ j, j < l.length → W.cell? ⟨g, j, none⟩ = some (.int .i64 (PrintWords.rd l (j : Int))) ∧ W.frozen? ⟨g, j, none⟩ = false) := by
  obtain ⟨g, cap, cur, e, hb, hg, hs, hn, hc⟩ := h.fam.open_ i (by rw [hl, nI_length]; exact h0)
  have e2 : (sxs s vs i).length = l.length := by rw [hl, nI_length]
  rw [e2] at e hn hc
  rw [hi] at hg
  refine ⟨g, cap, cur, e, hb, fun e3 => h.blk i (by rw [e, e3]; rfl), hg, by omega, fun j hj => ⟨?_, (hc j hj).2⟩⟩
  rw [(hc j hj).1, hl]
  exact nI_get hj
theorem find_drop {c : List Int} {x : Int} (h0 : 0 ≤ x) (h1 : x < (c.length : Int)) (p : Int → Bool) : (c.drop x.toNat).find? p = if p (PrintWords.rd c x) then some (PrintWords.rd c x) else (c.drop (x + 1).toNat).find? p := by
  rw [drop_rd h0 h1, List.find?_cons]
  cases p (PrintWords.rd c x) <;> rfl
set_option maxHeartbeats 4000000 in
set_option maxRecDepth 100000 in
theorem look_calls (w W : World) (gs : Nat) (n : Int) (A : Option Addr) (ca : Nat) (cl : List (List Int)) (s : PS) (ks : Nat → Value) (c : Int) (hr : kL.C w A cl.length cl) (h : SetOk2 w W gs n (.slice A cl.length ca) s ks) (hc0 : 0 ≤ c) (hc1 : c < (cl.length : Int)) (hcl : c < (s.left.length : Int)) (hcb : cl.length ≤ 1099511627776)
    (hlit : ∀ l ∈ cl.getD c.toNat [], 1 ≤ l.natAbs ∧ l.natAbs < s.value.length) (hlen : (cl.getD c.toNat []).length ≤ 1099511627776) (hb : s.value.length ≤ 1099511627776) (hq : s.list.length ≤ 1099511627776) :
    Calls Tryz.prog 58 #[.pointer (some ⟨gs, 0, none⟩), .int .i64 c] W fun e w' => e = .returned (.tuple #[]) ∧ SetOk2 w w' gs n (.slice A cl.length ca) (s.look cl c) ks := by
  obtain ⟨vs, HS, hks⟩ := h
  have HKS := Aside0.mk hks
  clear hks
  obtain ⟨gl, cap, cur, ev, hgb, hgn, hgv, hcs, hcv⟩ := HS.row 2 s.left rfl rfl (by omega)
  have hu := Tryz.underlying74
  have hbox := HS.box
  rw [ev] at hbox
  have b4 : W.cell? ⟨gs, 4, none⟩ = some (.slice (some ⟨gl, 0, none⟩) s.left.length cap) := (blk_cell hbox 4).trans rfl
  have hct : ((c.toNat : Nat) : Int) = c := by omega
  have l0 : W.cell? ⟨gl, c.toNat, none⟩ = some (.int .i64 (PrintWords.rd s.left c)) := by rw [(hcv c.toNat (by omega)).1, hct]
  have p1 : (0 ≤ c) = True := eq_true hc0
  have q1 : (c < (s.left.length : Int)) = True := eq_true hcl
  have hlook : s.look cl c = if PrintWords.rd s.left c = 0 then { s with fails := true } else if PrintWords.rd s.left c = 1 then (match (cl.getD c.toNat []).find? fun l => decide (PrintWords.rd s.value (l.natAbs : Int) ≠ -l) with | some l => s.add l | none => s) else s := rfl
  by_cases hA : PrintWords.rd s.left c = 0
  · rw [if_pos hA] at hlook
    rw [hA] at l0
    have HA := Aside0.mk hlook
    have HSS := Aside0.mk HS
    have f6 : W.frozen? ⟨gs, 6, none⟩ = false := blk_frozen hbox 6
    have b6 : W.cell? ⟨gs, 6, none⟩ = some (.bool s.fails) := (blk_cell hbox 6).trans rfl
    clear hlook hA HS hcv hcs hbox ev hb hq hgb hgn hgv hr hc0 hc1 hcl hcb hlit hlen hct
    go_enter Tryz.func58, Tryz.ntmps58
    go_wp2
    go_end0
    exact ⟨rfl, by rw [HA.out]; exact ⟨vs, HSS.out.fail, HKS.out⟩⟩
  · rw [if_neg hA] at hlook
    have t1 : (PrintWords.rd s.left c == 0) = false := beq_eq_false_iff_ne.mpr hA
    by_cases hB : PrintWords.rd s.left c = 1
    · rw [if_pos hB] at hlook
      rw [hB] at l0 t1
      obtain ⟨ad, A0, c0, e1, hx0, hc0', hrc⟩ := at_L1 hr c hc0 hc1
      cases e1
      have hx1 := (HS.below.cell (World.block_lt_of_cell? w _ hx0)).trans hx0
      have b1 : W.cell? ⟨gs, 1, none⟩ = some (.slice (some ad) cl.length ca) := (blk_cell hbox 1).trans rfl
      have q2 : (c < (cl.length : Int)) = True := eq_true hc1
      have hcc : cl.getD c.toNat [] = rd_L1 cl c := rfl
      rw [hcc] at hlit hlen hlook
      generalize rd_L1 cl c = cc at hx1 hrc hlit hlen hlook hc0'
      have HL := Aside0.mk hlook
      have HSS := Aside0.mk HS
      have HLIT := Aside0.mk hlit
      have HB := Aside0.mk (And.intro hb (And.intro hq hlen))
      have HRC := Aside0.mk hrc
      clear hlook hA hB HS hcv hcs hbox ev hb hq hgb hgn hgv hr hcb hlit hlen hct hc0 hc1 hcl hx0 hc0' hrc hcc
      go_enter Tryz.func58, Tryz.ntmps58
      go_wp2
      go_loopg [29] cc.length (fun d v29 wr => ∃ x : Int, v29 = .int .i64 x ∧ Aside0 (0 ≤ x ∧ x + d = cc.length ∧ cc.find? (fun l => decide (PrintWords.rd s.value (l.natAbs : Int) ≠ -l)) = (cc.drop x.toNat).find? (fun l => decide (PrintWords.rd s.value (l.natAbs : Int) ≠ -l))) ∧ Aside0 (SetSt w wr gs n (.slice (some ad) cl.length ca) s vs))
      case atStart => exact ⟨0, rfl, ⟨by omega, by omega, rfl⟩, HSS⟩
      case round =>
        obtain ⟨x, rfl, HX, HS2⟩ := hrel
        cases gk with
        | zero =>
          have h2 : decide (x < (cc.length : Int)) = false := decide_eq_false (by have := HX.out; omega)
          go_wp2
          go_end0
          refine ⟨rfl, ?_⟩
          have e : cc.drop x.toNat = [] := List.drop_eq_nil_of_le (by have := HX.out; omega)
          rw [HL.out, HX.out.2.2, e]
          exact ⟨vs, HS2.out, HKS.out⟩
        | succ d1 =>
          have c2 : x < (cc.length : Int) := by have := HX.out; omega
          have x0 := HX.out.1
          obtain ⟨ad2, e2, hy0⟩ := Kd.at_int HRC.out x x0 c2
          cases e2
          have hy1 := (HS2.out.below.cell (World.block_lt_of_cell? w _ hy0)).trans hy0
          have hlm := HLIT.out _ (rd_mem cc x x0 c2)
          have hfd := find_drop x0 c2 (fun l => decide (PrintWords.rd s.value (l.natAbs : Int) ≠ -l))
          obtain ⟨gv, cap2, cur2, ev2, _, _, _, _, hcv2⟩ := HS2.out.row 1 s.value rfl rfl (by omega)
          have hbox2 := HS2.out.box
          rw [ev2] at hbox2
          have d2 : wr.cell? ⟨gs, 2, none⟩ = some (.slice (some ⟨gv, 0, none⟩) s.value.length cap2) := (blk_cell hbox2 2).trans rfl
          obtain ⟨l, hl⟩ : ∃ l : Int, l = PrintWords.rd cc x := ⟨_, rfl⟩
          rw [← hl] at hy1 hlm hfd
          have hv := varOf_eq (x := l) (by have := HB.out.1; omega) (by have := HB.out.1; omega)
          obtain ⟨m, hm⟩ : ∃ m : Int, m = l.natAbs := ⟨_, rfl⟩
          have hcall : ∀ W', Calls Tryz.prog 46 #[.int .i64 l] W' fun e w' => e = .returned (.int .i64 m) ∧ w' = W' := fun W' => by
            have h := variable_calls l W'
            rwa [hv, ← hm] at h
          have hmt : m.toNat = l.natAbs := by omega
          have d3 : wr.cell? ⟨gv, m.toNat, none⟩ = some (.int .i64 (PrintWords.rd s.value m)) := by rw [hmt, (hcv2 _ hlm.2).1, hm]
          have r1 : (0 ≤ m) = True := eq_true (by omega)
          have r2 : (m < (s.value.length : Int)) = True := eq_true (by omega)
          have kn : wrap64 (-l) = -l := by have := HB.out.1; unfold wrap64; omega
          obtain ⟨a, ha⟩ : ∃ a : Int, a = x + 1 := ⟨_, rfl⟩
          have ka : IntKind.i64.wrap (x + 1) = a := (IntWalk.i64_in _ (by have := HB.out; omega)).trans ha.symm
          have ka2 : wrap64 (x + 1) = a := by have := HB.out; unfold wrap64; omega
          have h2 : decide (x < (cc.length : Int)) = true := decide_eq_true c2
          have s1 : (0 ≤ x) = True := eq_true x0
          have s2 : (x < (cc.length : Int)) = True := eq_true c2
          have HA := Aside0.mk ha
          have HLM := Aside0.mk hlm
          by_cases hq : PrintWords.rd s.value m = -l
          · have t2 : (PrintWords.rd s.value m != wrap64 (-l)) = false := by rw [kn]; exact bne_eq_false_iff_eq.mpr hq
            have HF : Aside0 ((cc.drop x.toNat).find? (fun l => decide (PrintWords.rd s.value (l.natAbs : Int) ≠ -l)) = (cc.drop a.toNat).find? (fun l => decide (PrintWords.rd s.value (l.natAbs : Int) ≠ -l))) := ⟨by
              rw [hfd, if_neg (by rw [← hm]; simpa using hq), ha]⟩
            clear hl hlm hfd hv hm hmt hcv2 hbox2 ev2 kn ha c2 x0 hy0 hq
            go_wp2
            go_quiet ((go_at_call 46; exact Calls.quiet_of_same (hcall _)))
            go_wp2
            go_roundg d1
            case measure => omega
            case rel => exact ⟨a, rfl, ⟨by have := HA.out; have := HX.out; omega, by have := HA.out; have := HX.out; omega, by rw [HX.out.2.2, HF.out]⟩, ⟨HS2.out.later (below_dr _ _)⟩⟩
          · have t2 : (PrintWords.rd s.value m != wrap64 (-l)) = true := by rw [kn]; exact bne_iff_ne.mpr hq
            have HF : Aside0 ((cc.drop x.toNat).find? (fun l => decide (PrintWords.rd s.value (l.natAbs : Int) ≠ -l)) = some l) := ⟨by
              rw [hfd, if_pos (by rw [← hm]; simpa using hq)]⟩
            have HADD := Aside0.mk (fun q : Nat => add_calls w (wr.drewN q) gs n (.slice (some ad) cl.length ca) s ks l ⟨vs, HS2.out.later (below_dr _ _), HKS.out⟩ hlm.2 hlm.1 HB.out.1 HB.out.2.1)
            clear hl hlm hfd hv hm hmt hcv2 hbox2 ev2 kn ha c2 x0 hy0 hq
            go_wp2
            go_quiet ((go_at_call 46; exact Calls.quiet_of_same (hcall _)))
            go_wp2_with (go_at_call 57; refine (HADD.out _).mono ?_; rintro e w5 ⟨rfl, h5⟩; have HS5 := Aside0.mk h5; clear h5)
            refine bodyPost_ret (results_none rfl _ _ _) rfl ?_
            refine ⟨rfl, ?_⟩
            rw [HL.out, HX.out.2.2, HF.out]
            exact HS5.out
    · rw [if_neg hB] at hlook
      have t2 : (PrintWords.rd s.left c == 1) = false := beq_eq_false_iff_ne.mpr hB
      have HA := Aside0.mk hlook
      have HSS := Aside0.mk HS
      clear hlook hA hB HS hcv hcs hbox ev hb hq hgb hgn hgv hr hc0 hc1 hcl hcb hlit hlen hct
      go_enter Tryz.func58, Tryz.ntmps58
      go_wp2
      go_end0
      exact ⟨rfl, by rw [HA.out]; exact ⟨vs, HSS.out, HKS.out⟩⟩
end Go.Proofs.YteaohgebocbehaaGreatDoor.Hand
end
section
/- cnf.Propagate's set: what the first loops do to it. Conditions as written in each. -/
set_option linter.unusedVariables false
set_option linter.unusedSimpArgs false
namespace Go.Proofs.YteaohgebocbehaaGreatDoor.Hand
open Go.RowKit Go.Lib Go.Shelf Go.Proofs.YteaohgebocbehaaGreatDoorW Go.Proofs.YteaohgebocbehaaGreatDoorW.PrintWords Go.Proofs.YteaohgebocbehaaGreatDoorW.PrintLast Go.Proofs.YteaohgebocbehaaGreatDoorW.PrintMore Go.Proofs.YteaohgebocbehaaGreatDoor.Plain Go.Proofs.YteaohgebocbehaaGreatDoor.XA Go.Proofs.YteaohgebocbehaaGreatDoor.Fam
attribute [local go_sem] max2_int min2_int max_two min_two max_three min_three max_four min_four
set_option maxHeartbeats 1000000 in
theorem index_calls (l : Int) (h0 : -1099511627776 ≤ l) (h1 : l ≤ 1099511627776) (W : World) : Calls Tryz.prog 56 #[.int .i64 l] W fun e w' => e = .returned (.int .i64 (idx l : Int)) ∧ w' = W := by
  obtain ⟨r, hr⟩ : ∃ r : Int, r = (idx l : Int) := ⟨_, rfl⟩
  rw [← hr]
  by_cases hl : l < 0
  · have e : r = -2 * l + 1 := by rw [hr]; unfold idx; rw [if_pos hl]; omega
    obtain ⟨t, ht⟩ : ∃ t : Int, t = -2 * l := ⟨_, rfl⟩
    have k1 : IntKind.i64.wrap (-2 * l) = t := (IntWalk.i64_in _ (by omega)).trans ht.symm
    have k2 : wrap64 (-2 * l) = t := by unfold wrap64; omega
    have k3 : IntKind.i64.wrap (t + 1) = r := (IntWalk.i64_in _ (by omega)).trans (by omega)
    have k4 : wrap64 (t + 1) = r := by unfold wrap64; omega
    have hd : decide (l < 0) = true := decide_eq_true hl
    clear hr e ht hl h0 h1
    go_enter Tryz.func56, Tryz.ntmps56
    go_wp2
    go_ret
    exact ⟨by first | rfl | (simp [*]; done), rfl⟩
  · have e : r = 2 * l := by rw [hr]; unfold idx; rw [if_neg hl]; omega
    have k1 : IntKind.i64.wrap (2 * l) = r := (IntWalk.i64_in _ (by omega)).trans e.symm
    have k2 : wrap64 (2 * l) = r := by unfold wrap64; omega
    have hd : decide (l < 0) = false := decide_eq_false hl
    clear hr e hl h0 h1
    go_enter Tryz.func56, Tryz.ntmps56
    go_wp2
    go_ret
    exact ⟨by first | rfl | (simp [*]; done), rfl⟩
set_option maxHeartbeats 1000000 in
theorem prop1_calls (g : Nat) (n : Int) (v : Value) (x : Int) (W : World) (hb : W.heap[g]? = some (.cells #[.int .i64 n, v] 24 (0, 0))) (hn : 0 ≤ n) (hn2 : n ≤ 65536) :
    Calls Tryz.prog 55 #[.int .i64 x, .pointer (some ⟨g, 0, none⟩)] W fun e w' => e = .returned (.bool (!startOk n x)) ∧ ∃ q, w' = W.drewN q := by
  have hu := Tryz.underlying24
  have hcell : W.cell? ⟨g, 0, none⟩ = some (.int .i64 n) := (blk_cell hb 0).trans rfl
  obtain ⟨t, ht⟩ : ∃ t : Int, t = -n := ⟨_, rfl⟩
  have k1 : IntKind.i64.wrap (-n) = t := (IntWalk.i64_in _ (by omega)).trans ht.symm
  have k2 : wrap64 (-n) = t := by unfold wrap64; omega
  have hs : ∀ b : Bool, (x = 0 ∨ x < t ∨ n < x ↔ b = true) → (!startOk n x) = b := fun b h => by
    unfold startOk
    cases b
    · have h2 : ¬ (x = 0 ∨ x < t ∨ n < x) := fun h3 => by simpa using h.1 h3
      simp; omega
    · have h2 := h.2 rfl
      simp; omega
  have HS := Aside0.mk hs
  clear hs ht hn hn2 hb
  by_cases c1 : x = 0
  · subst c1
    go_enter Tryz.func55, Tryz.ntmps55
    go_wp2
    go_ret
    exact ⟨by rw [HS.out true (by simp)]; rfl, 0, rfl⟩
  · have d1 : (x == 0) = false := beq_eq_false_iff_ne.mpr c1
    by_cases c2 : x < t
    · have d2 : decide (x < t) = true := decide_eq_true c2
      have C := Aside0.mk (And.intro c1 c2)
      clear c1 c2
      go_enter Tryz.func55, Tryz.ntmps55
      go_wp2
      go_ret
      exact ⟨by rw [HS.out true (by simp [C.out.2])]; rfl, 0, rfl⟩
    · have d2 : decide (x < t) = false := decide_eq_false c2
      by_cases c3 : n < x
      · have d3 : decide (n < x) = true := decide_eq_true c3
        have C := Aside0.mk (And.intro c1 (And.intro c2 c3))
        clear c1 c2 c3
        go_enter Tryz.func55, Tryz.ntmps55
        go_wp2
        go_ret
        exact ⟨by rw [HS.out true (by simp [C.out.2.2])]; rfl, 0, rfl⟩
      · have d3 : decide (n < x) = false := decide_eq_false c3
        have C := Aside0.mk (And.intro c1 (And.intro c2 c3))
        clear c1 c2 c3
        go_enter Tryz.func55, Tryz.ntmps55
        go_wp2
        go_ret
        exact ⟨by rw [HS.out false (by have := C.out; simp; omega)]; rfl, 0, rfl⟩
theorem prop1_enters : ∀ args w, (callFunc 55 args).run Tryz.prog w = .ok (.enter 55 args) w := Go.Proofs.enters_of Tryz.func55 (by kernel_rfl) rfl
theorem three (w : World) (o1 o2 o3 : Obj) : (((w.alloc o1).alloc o2).alloc o3).drew.heap[w.heap.size]? = some o1 ∧ (((w.alloc o1).alloc o2).alloc o3).drew.heap[w.heap.size + 1]? = some o2 ∧ (((w.alloc o1).alloc o2).alloc o3).drew.heap[w.heap.size + 1 + 1]? = some o3 ∧ Below w.heap.size w (((w.alloc o1).alloc o2).alloc o3).drew := by
  refine ⟨?_, ?_, ?_, ?_⟩
  · exact blk_alloc (blk_alloc (blk_new w o1) o2) o3
  · have h := blk_alloc (blk_new (w.alloc o1) o2) o3
    have e : (w.alloc o1).heap.size = w.heap.size + 1 := by simp
    rw [e] at h
    exact h
  · have h := blk_new ((w.alloc o1).alloc o2) o3
    have e : ((w.alloc o1).alloc o2).heap.size = w.heap.size + 1 + 1 := by simp
    rw [e] at h
    exact h
  · exact below_drew (((((Below.refl _ w).alloc (Nat.le_refl _) o1).alloc (by simp) o2).alloc (by simp; omega)) o3)
theorem made_list (z : Value) (m : Nat) : (madeCells #[z] m).toList = List.replicate m z := by
  apply List.ext_getElem
  · simp [madeCells]
  · intro i h1 h2
    simp [madeCells, Nat.mod_one]
theorem init_ok {w W : World} {gs gv gp a b : Nat} {n : Int} {C : Value} (h1 : W.heap[gv]? = some (.cells (madeCells #[.int .i64 0] a) 3 (0, 0))) (h2 : W.heap[gp]? = some (.cells (madeCells #[.slice none 0 0] b) 25 (0, 0)))
    (h3 : W.heap[gs]? = some (.cells #[.int .i64 n, C, .slice (some ⟨gv, 0, none⟩) a a, .slice (some ⟨gp, 0, none⟩) b b, .slice none 0 0, .slice none 0 0, .bool false] 74 (0, 0)))
    (hb : Below w.heap.size w W) (l1 : w.heap.size ≤ gv) (l2 : w.heap.size ≤ gp) (l3 : w.heap.size ≤ gs) (ha : (a : Int) = n + 1) (hbb : (b : Int) = 2 * n + 2) (hm : a ≤ 9223372036854775807) (hm2 : b ≤ 9223372036854775807) :
    SetOk w W gs n C (PS.init n) := by
  have e1 : (n + 1).toNat = a := by omega
  have e2 : (2 * n + 2).toNat = b := by omega
  refine ⟨fun | 0 => .slice (some ⟨gp, 0, none⟩) b b | 1 => .slice (some ⟨gv, 0, none⟩) a a | _ => .slice none 0 0, ⟨h3, ⟨fun i => ?_, fun i j hij => ?_⟩, hb, l3⟩⟩
  · match i with
    | 0 =>
      have e : sxs (PS.init n) (fun | 0 => .slice (some ⟨gp, 0, none⟩) b b | 1 => .slice (some ⟨gv, 0, none⟩) a a | _ => .slice none 0 0) 0 = List.replicate b (.slice none 0 0) := by
        simp only [sxs, PS.init, List.length_replicate, e2]
        exact List.ext_getElem (by simp) (fun i h1 h2 => by simp)
      rw [e, List.length_replicate]
      exact ⟨by simp, .inr ⟨gp, b, _, rfl, l2, h2, Nat.le_refl _, by simpa [maxLen] using hm2, by simp [madeCells], by rw [made_list]; simp⟩⟩
    | 1 =>
      have e : sxs (PS.init n) (fun | 0 => .slice (some ⟨gp, 0, none⟩) b b | 1 => .slice (some ⟨gv, 0, none⟩) a a | _ => .slice none 0 0) 1 = List.replicate a (.int .i64 0) := by
        simp [sxs, PS.init, e1, nI, nums]
      rw [e, List.length_replicate]
      exact ⟨by simp, .inr ⟨gv, a, _, rfl, l1, h1, Nat.le_refl _, by simpa [maxLen] using hm, by simp [madeCells], by rw [made_list]; simp⟩⟩
    | 2 => exact own_nil _ _ _ _
    | 3 => exact own_nil _ _ _ _
    | i + 4 =>
      have e : sxs (PS.init n) (fun | 0 => .slice (some ⟨gp, 0, none⟩) b b | 1 => .slice (some ⟨gv, 0, none⟩) a a | _ => .slice none 0 0) (i + 4) = [] := by
        simp only [sxs, PS.init, e2, List.getD]
        by_cases h : i < b
        · simp [h, nI, nums]
        · simp [h, nI, nums]
      rw [e]
      exact own_nil _ _ _ _
  · have key : gp ≠ gv := fun e => by
      rw [e, h1] at h2
      injection h2 with h2
      injection h2 with _ h2
      exact absurd h2 (by decide)
    match i, j, hij with
    | 0, 0, h => exact absurd rfl h
    | 0, 1, _ => exact fun k hk hk' => by simp [Value.ownBlock] at hk hk'; omega
    | 1, 0, _ => exact fun k hk hk' => by simp [Value.ownBlock] at hk hk'; omega
    | 1, 1, h => exact absurd rfl h
    | i + 2, _, _ => exact ne_nil _
    | 0, j + 2, _ => exact ne_nil' _
    | 1, j + 2, _ => exact ne_nil' _
/-- The order of variables. -/
def varCmp (x y : Int) : Int := Lib.compareInt (varOf x) (varOf y)
set_option maxHeartbeats 1000000 in
theorem varCmp_calls (x y : Int) (W : World) : Calls Tryz.prog 59 #[.int .i64 x, .int .i64 y] W fun e w' => e = .returned (.int .i64 (varCmp x y)) ∧ ∃ q os, w' = Sort.grow (W.drewN q) os := by
  unfold varCmp
  generalize hp : Lib.compareInt (varOf x) (varOf y) = p
  have HP := Aside0.mk hp
  clear hp
  go_enter Tryz.func59, Tryz.ntmps59
  go_wp2_with (first
    | (go_at_call 46; refine (variable_calls _ _).mono ?_; rintro e w' ⟨rfl, rfl⟩)
    | (go_at_call 45; refine (compare_calls _ _ _).mono ?_; rintro e w' ⟨rfl, rfl⟩))
  go_ret
  exact ⟨by rw [← HP.out]; rfl, 0, #[], by simp [Sort.grow]; rfl⟩
theorem varLt (x y : Int) : Go.Proofs.ltOf varCmp x y = decide (varOf x < varOf y) := by
  unfold Go.Proofs.ltOf varCmp Lib.compareInt
  rcases Int.lt_trichotomy (varOf x) (varOf y) with h | h | h
  · simp [h]
  · simp [h]
  · have h1 : ¬ varOf x < varOf y := by omega
    simp [h, h1]
theorem varSwo : Sort.SWO (Go.Proofs.ltOf varCmp) where
  irrefl x := by rw [varLt]; simp
  trans x y z h1 h2 := by rw [varLt] at *; simp at *; omega
  ntrans x y z h1 h2 := by rw [varLt] at *; simp at *; omega
theorem prop2_enters : ∀ args w, (callFunc 59 args).run Tryz.prog w = .ok (.enter 59 args) w := Go.Proofs.enters_of Tryz.func59 (by kernel_rfl) rfl
theorem sort_list {w W : World} {gs : Nat} {n : Int} {C : Value} {s : PS} {vs : Nat → Value} (h : SetSt w W gs n C s vs) (hl : s.list.length ≤ 17592186044416) (hb : ∀ l ∈ s.list, l.natAbs ≤ 1099511627776) :
    Calls Tryz.prog 42 #[vs 3, .func (.func 59) #[] #[]] W fun e w' => e = .returned (.tuple #[]) ∧ (∃ ys : List Int, ys.Perm s.list ∧ (ys.Pairwise fun x y => ¬ y.natAbs < x.natAbs) ∧ kI.R 3 w' w.heap.size (fun _ => True) (vs 3) ys) ∧ Below w.heap.size w w' ∧ w'.cell? ⟨gs, 5, none⟩ = some (vs 3) := by
  refine (sortSome varCmp varSwo 59 prop2_enters varCmp_calls (vs 3) s.list W w.heap.size (fun _ => True) h.list_ hl).mono ?_
  rintro e w' ⟨rfl, ⟨ys, hp, hs, hr⟩, hg⟩
  refine ⟨rfl, ⟨ys, hp, hs.imp_of_mem fun {a b} ha hb' hab => ?_, hr⟩, h.below.grown hg h.below.size (fun k hk => own_base (h.fam.row 3) k hk), ?_⟩
  · have h1 := hb a (hp.mem_iff.1 ha)
    have h2 := hb b (hp.mem_iff.1 hb')
    rw [varLt, decide_eq_false_iff_not, varOf_eq (by omega) (by omega), varOf_eq (by omega) (by omega)] at hab
    omega
  · exact (blk_cell (blk_grown h.box hg (fun e => h.blk 3 e.symm)) 5).trans rfl
/-- The counts have grown. -/
theorem SetSt.left_ {w W : World} {gs : Nat} {n : Int} {C : Value} {s : PS} {vs : Nat → Value} (h : SetSt w W gs n C s vs) : kI.R 3 W w.heap.size (fun _ => True) (vs 2) s.left := by
  have h := h.fam.row 2
  rw [show (sxs s vs 2).length = s.left.length from nI_length _] at h
  exact Kd.R_of_own h (fun _ _ => trivial)
theorem SetSt.grow2 {w W W1 : World} {gs : Nat} {n : Int} {C : Value} {s : PS} {vs : Nat → Value} (h : SetSt w W gs n C s vs) {v1 : Value} {x : Int} (ho : kI.R 3 W1 w.heap.size (fun _ => True) v1 (s.left ++ [x])) (hg : W.grownBy W1 (vs 2).ownBlock) (hat : v1.ownBlock = (vs 2).ownBlock ∨ ∃ b, v1.ownBlock = some b ∧ W.heap.size ≤ b) :
    W1.heap[gs]? = some (.cells #[.int .i64 n, C, vs 1, vs 0, vs 2, vs 3, .bool s.fails] 74 (0, 0)) ∧ SetSt w (W1.setCell ⟨gs, 4, none⟩ v1) gs n C { s with left := s.left ++ [x] } (upd vs 2 v1) ∧ Below w.heap.size w W1 := by
  have hbox : W1.heap[gs]? = some (.cells #[.int .i64 n, C, vs 1, vs 0, vs 2, vs 3, .bool s.fails] 74 (0, 0)) := blk_grown h.box hg (fun e => h.blk 2 e.symm)
  have hbl := h.below.grown hg h.below.size (fun k hk => own_base (h.fam.row 2) k hk)
  refine ⟨hbox, ?_, hbl⟩
  have hown := Kd.own_of_R ho
  have hF := h.fam.append 2 (v1 := v1) (l := nI (s.left ++ [x])) (W1 := W1) (by rw [nI_length]; exact hown) hg hat
  have hF2 := hF.far (p := ⟨gs, 4, none⟩) (fun i => hF.ne_blk hbox sty_ne i) v1
  refine ⟨?_, hF2.congr (fun _ => rfl) ?_, ?_, h.ge⟩
  · have := blk_set hbox 4 v1
    simpa [upd] using this
  · intro i
    by_cases e : i = 2
    · subst e; rw [upd_same]; rfl
    · rw [upd_other _ _ _ _ e]
      match i, e with
      | 0, _ => simp only [sxs]; exact List.map_congr_left fun j _ => (upd_other _ _ _ _ (by omega)).symm
      | 1, _ => rfl
      | 3, _ => rfl
      | i + 4, _ => rfl
  · exact hbl.setCell (p := ⟨gs, 4, none⟩) h.ge _
/-- A count stored. -/
theorem SetSt.leftSet {w W : World} {gs : Nat} {n : Int} {C : Value} {s : PS} {vs : Nat → Value} (h : SetSt w W gs n C s vs) {g k cap : Nat} (hv : vs 2 = .slice (some ⟨g, 0, none⟩) k cap) (hne : g ≠ gs) (hge : w.heap.size ≤ g) (j : Nat) (x : Int) :
    SetSt w (W.setCell ⟨g, j, none⟩ (.int .i64 x)) gs n C { s with left := s.left.set j x } vs := by
  refine ⟨blk_far h.box (p := ⟨g, j, none⟩) (Ne.symm hne) _, (h.fam.store 2 hv j (.int .i64 x)).congr (fun _ => rfl) ?_, h.below.setCell (p := ⟨g, j, none⟩) hge _, h.ge⟩
  intro i
  by_cases e : i = 2
  · subst e
    rw [upd_same]
    exact nI_set _ _ _
  · rw [upd_other _ _ _ _ e]
    match i, e with
    | 0, _ => rfl
    | 1, _ => rfl
    | 3, _ => rfl
    | i + 4, _ => rfl
/-- The row of places laid open: its cells hold the places' rows. -/
theorem SetSt.places_ {w W : World} {gs : Nat} {n : Int} {C : Value} {s : PS} {vs : Nat → Value} (h : SetSt w W gs n C s vs) (h0 : 0 < s.places.length) : ∃ g cap cur, vs 0 = .slice (some ⟨g, 0, none⟩) s.places.length cap ∧ w.heap.size ≤ g ∧ g ≠ gs ∧ W.heap[g]? = some (.cells cur 25 (0, 0)) ∧ s.places.length ≤ cur.size ∧
    (∀ j, j < s.places.length → W.cell? ⟨g, j, none⟩ = some (vs (j + 4)) ∧ W.frozen? ⟨g, j, none⟩ = false) := by
  have e2 : (sxs s vs 0).length = s.places.length := by simp [sxs]
  obtain ⟨g, cap, cur, e, hb, hg, hs, hn, hc⟩ := h.fam.open_ 0 (by rw [e2]; exact h0)
  rw [e2] at e hn hc
  refine ⟨g, cap, cur, e, hb, fun e3 => h.blk 0 (by rw [e, e3]; rfl), hg, by omega, fun j hj => ⟨?_, (hc j hj).2⟩⟩
  rw [(hc j hj).1]
  simp [sxs, hj]
theorem SetSt.place_ {w W : World} {gs : Nat} {n : Int} {C : Value} {s : PS} {vs : Nat → Value} (h : SetSt w W gs n C s vs) (k : Nat) (hk : k < s.places.length) : kI.R 3 W w.heap.size (fun _ => True) (vs (k + 4)) (s.places.getD k []) := by
  have h := h.fam.row (k + 4)
  rw [show (sxs s vs (k + 4)).length = (s.places.getD k []).length from nI_length _] at h
  exact Kd.R_of_own h (fun _ _ => trivial)
/-- A row of places has grown, and is stored back. -/
theorem SetSt.growP {w W W1 : World} {gs : Nat} {n : Int} {C : Value} {s : PS} {vs : Nat → Value} (h : SetSt w W gs n C s vs) {k g cap : Nat} (hk : k < s.places.length) (hv0 : vs 0 = .slice (some ⟨g, 0, none⟩) s.places.length cap) (hge : w.heap.size ≤ g) {cur : Array Value} (hgb : W.heap[g]? = some (.cells cur 25 (0, 0))) {v1 : Value} {x : Int}
    (ho : kI.R 3 W1 w.heap.size (fun _ => True) v1 (s.places.getD k [] ++ [x])) (hg : W.grownBy W1 (vs (k + 4)).ownBlock) (hat : v1.ownBlock = (vs (k + 4)).ownBlock ∨ ∃ b, v1.ownBlock = some b ∧ W.heap.size ≤ b) :
    W1.heap[gs]? = some (.cells #[.int .i64 n, C, vs 1, vs 0, vs 2, vs 3, .bool s.fails] 74 (0, 0)) ∧ W1.heap[g]? = some (.cells cur 25 (0, 0)) ∧ SetSt w (W1.setCell ⟨g, k, none⟩ v1) gs n C { s with places := s.places.set k (s.places.getD k [] ++ [x]) } (upd vs (k + 4) v1) ∧ Below w.heap.size w W1 := by
  have hbox : W1.heap[gs]? = some (.cells #[.int .i64 n, C, vs 1, vs 0, vs 2, vs 3, .bool s.fails] 74 (0, 0)) := blk_grown h.box hg (fun e => h.blk (k + 4) e.symm)
  have hne : some g ≠ (vs (k + 4)).ownBlock := own_ne (h.fam.row (k + 4)) hgb (by show 3 ≠ 25; decide)
  have hgb1 := blk_grown hgb hg hne
  have hbl := h.below.grown hg h.below.size (fun k hk => own_base (h.fam.row _) k hk)
  refine ⟨hbox, hgb1, ?_, hbl⟩
  have hown := Kd.own_of_R ho
  have hF := h.fam.append (k + 4) (v1 := v1) (l := nI (s.places.getD k [] ++ [x])) (W1 := W1) (by rw [nI_length]; exact hown) hg hat
  have hF2 := hF.store 0 (by rw [upd_other _ _ _ _ (by omega)]; exact hv0) k v1
  have hgs : g ≠ gs := fun e => h.blk 0 (by rw [hv0, e]; rfl)
  refine ⟨?_, hF2.congr (fun _ => rfl) ?_, hbl.setCell (p := ⟨g, k, none⟩) hge _, h.ge⟩
  · have := blk_far hbox (p := ⟨g, k, none⟩) (Ne.symm hgs) v1
    simpa [upd] using this
  · intro i
    by_cases e : i = 0
    · subst e
      rw [upd_same, upd_other _ _ _ _ (by omega)]
      simp only [sxs, List.length_set]
      apply List.ext_getElem?
      intro j
      by_cases hj : j < s.places.length
      · by_cases hjk : j = k
        · subst hjk
          simp [hj, upd]
        · simp [hj, upd, hjk, Ne.symm hjk]
      · simp [hj]
    · rw [upd_other _ _ _ _ e]
      match i, e with
      | 1, _ => rfl
      | 2, _ => rfl
      | 3, _ => rfl
      | i + 4, _ =>
        by_cases hik : i = k
        · subst hik
          rw [upd_same]
          simp [sxs, List.getD, hk]
        · rw [upd_other _ _ _ _ (by omega)]
          simp [sxs, List.getD, Ne.symm hik]
end Go.Proofs.YteaohgebocbehaaGreatDoor.Hand
end
section
/- Regions that draw their order: a call of a function that only computes is taken first; an operation that makes memory, a store. No program, no condition. -/
set_option linter.unusedVariables false
set_option linter.unusedSimpArgs false
namespace Go.Proofs.YteaohgebocbehaaGreatDoor.Reg
open Go.RowKit Go.Proofs.YteaohgebocbehaaGreatDoorW.PrintWords Go.Proofs.YteaohgebocbehaaGreatDoorW.PrintLast Go.Proofs.YteaohgebocbehaaGreatDoorW.PrintMore
variable {P : Program} {ops : Array Oper} {Q : Exit → Act → World → Prop} {md : Region.Mode} {S : World → Prop} {ds : List Nat}

/-- The operation calls a function that hands back v in every world that meets S, and turns nothing. -/
def CallsIf (P : Program) (ops : Array Oper) (S : World → Prop) (o : Oper) (v : Value) (a : Act) : Prop :=
  Region.wanted o (yielded ops a.tmps) = true ∧ ∃ f args, (∀ w, (execOp a.eval o).run P w = .ok (.enter f args) w) ∧ ∀ w, S w → Calls P f args w fun e w' => e = .returned v ∧ w' = w
theorem CallsIf.of_same {o : Oper} {v : Value} {a a' : Act} (hy : CallsIf P ops S o v a) (he : execOp a'.eval o = execOp a.eval o) (hw : Region.wanted o (yielded ops a'.tmps) = Region.wanted o (yielded ops a.tmps)) : CallsIf P ops S o v a' := by
  unfold CallsIf at *
  rw [he, hw]
  exact hy
theorem CallsIf.wpOp {i : Nat} {o : Oper} {v : Value} {a : Act} (hi : ops[i]? = some o) (hy : CallsIf P ops S o v a) {K : Act → World → Prop} {w : World} (hS : S w) (h : K (a.put o.dst v) w) : wpOp P ops Q i K a w := by
  obtain ⟨hw, f, args, hrun, hc⟩ := hy
  unfold Go.wpOp
  simp only [hi, hw, if_true]
  refine .inl ?_
  unfold Oper.wp
  rw [hrun w]
  refine (hc w hS).mono ?_
  rintro e w' ⟨rfl, rfl⟩
  exact h
theorem wpOp_putC {j : Nat} {oi oj : Oper} {v : Value} (hj : ops[j]? = some oj) (hap : oi.apart ops oj = true)
    (hsi : ∀ cs b, oi.op ≠ .select cs b) (hsj : ∀ cs b, oj.op ≠ .select cs b)
    (hQ : ∀ c a w, Q (.panic c) (a.put oi.dst v) w → Q (.panic c) a w) {K : Act → World → Prop} {a : Act} {w : World}
    (hy : CallsIf P ops S oi v a) (h : wpOp P ops Q j K (a.put oi.dst v) w) :
    wpOp P ops Q j (fun a' w' => CallsIf P ops S oi v a' ∧ K (a'.put oi.dst v) w') a w := by
  obtain ⟨h1, h2, h3⟩ := Oper.apart_spec hap
  have keep : ∀ (a : Act), CallsIf P ops S oi v a → ∀ u, CallsIf P ops S oi v (a.put oj.dst u) := fun a hy u => hy.of_same (execOp_put oi hsi a oj.dst u h3) (wanted_put oi a oj.dst u h3)
  have keepD : ∀ d, CallsIf P ops S oi v { a with defers := d :: a.defers } := fun d => hy.of_same rfl rfl
  unfold wpOp at *
  simp only [hj] at *
  rw [wanted_put oj a oi.dst v h1] at h
  split
  · rename_i hw
    simp only [hw, if_true] at h
    rcases h with h | ⟨hasks, hlets⟩
    case inr => exact .inr ⟨by unfold Oper.asks at *; rw [execOp_put oj hsj a oi.dst v h1] at hasks; exact hasks, hlets⟩
    refine .inl ?_
    unfold Oper.wp at *
    rw [execOp_put oj hsj a oi.dst v h1] at h
    generalize (execOp a.eval oj).run P w = r at *
    cases r with
    | ok n w' =>
      cases n <;> simp only [Oper.upon] at h ⊢
      case value u => exact ⟨keep a hy u, by rw [← Act.put_comm a v u h2]; exact h⟩
      case skip => exact ⟨keep a hy _, by rw [← Act.put_comm a v undef h2]; exact h⟩
      case defer d =>
        refine ⟨keep _ (keepD d) _, ?_⟩
        rw [← Act.put_comm _ v undef h2, ← Act.put_defers]
        exact h
      case enter f args =>
        refine Calls.mono h fun e w'' he => ?_
        cases e with
        | returned u => exact ⟨keep a hy u, by rw [← Act.put_comm a v u h2]; exact he⟩
        | panicked c => exact hQ _ _ _ he
        | outgrown => exact he
      case row row args => exact Rows.mono h fun u w'' he => ⟨keep a hy u, by rw [← Act.put_comm a v u h2]; exact he⟩
    | halt x w' =>
      cases x <;> simp only [Oper.upon] at h ⊢
      case panic u => exact hQ _ _ _ h
  · rename_i hw
    simp only [hw] at h
    exact ⟨keep a hy _, by rw [← Act.put_comm a v undef h2]; exact h⟩
theorem first_call {i : Nat} {oi : Oper} {v : Value} (hi : ops[i]? = some oi) (hsel : ∀ (j : Nat) (o : Oper) cs b, ops[j]? = some o → o.op ≠ .select cs b)
    (hQ : ∀ c a w, Q (.panic c) (a.put oi.dst v) w → Q (.panic c) a w) (n : Nat) :
    ∀ (fuel : Nat) (listed : Array Bool) (a : Act) (w : World),
      (∀ j oj, ops[j]? = some oj → j ≠ i → listed.getD j true = false → (∀ e ∈ oj.after, Region.binds md e = true → e.on ≠ i) → oi.apart ops oj = true) →
      ListedClosed md ops listed → (∀ d ∈ ds, listed.getD d true = false → Region.reachB md ops i n d = true) →
      i ∈ Region.ready md ops listed → CallsIf P ops S oi v a → S w →
      wpAnyLast P md ops Q S ds fuel (listed.setIfInBounds i true) (a.put oi.dst v) w → wpAnyLast P md ops Q S ds (fuel + 1) listed a w := by
  intro fuel
  induction fuel with
  | zero =>
    intro listed a w _ _ _ hr hy hS H
    refine ⟨fun h => (by rw [h] at hr; cases hr), fun j hj => ?_⟩
    by_cases hji : j = i
    · subst hji; exact hy.wpOp hi hS ⟨fun _ h => h, H⟩
    · have := ready_mono hj hji
      rw [H.1] at this
      cases this
  | succ fuel ih =>
    intro listed a w hfree hc hd hr hy hS H
    refine ⟨fun h => (by rw [h] at hr; cases hr), fun j hj => ?_⟩
    by_cases hji : j = i
    · subst hji; exact hy.wpOp hi hS ⟨fun _ h => h, H⟩
    · have h1 := H.2 j (ready_mono hj hji)
      obtain ⟨hjun, oj, hoj, hall⟩ := mem_ready.1 hj
      have hiun := (mem_ready.1 hr).1
      have hnot : ∀ e ∈ oj.after, Region.binds md e = true → e.on ≠ i := fun e he hb heq => by
        have h1 := hall e he hb
        rw [heq] at h1
        rcases Nat.lt_or_ge i listed.size with h' | h'
        · simp [h'] at hiun h1; rw [hiun] at h1; cases h1
        · simp [Array.getElem?_eq_none h'] at h1
      have hjd : j ∉ ds := fun hm => Region.reach_not_ready hc (hd j hm hjun) hiun hj
      have h2 := wpOp_putC hoj (hfree j oj hoj hji hjun hnot) (fun cs b => hsel i oi cs b hi) (fun cs b => hsel j oj cs b hoj) hQ hy h1
      have hfree' : ∀ k ok, ops[k]? = some ok → k ≠ i → (listed.setIfInBounds j true).getD k true = false →
          (∀ e ∈ ok.after, Region.binds md e = true → e.on ≠ i) → oi.apart ops ok = true := fun k ok hk hki hun hno => by
        refine hfree k ok hk hki ?_ hno
        by_cases hjk : j = k
        · subst hjk; exact hjun
        · rw [getD_set_ne true hjk] at hun; exact hun
      have hd' : ∀ d ∈ ds, (listed.setIfInBounds j true).getD d true = false → Region.reachB md ops i n d = true := fun d hm hun => by
        refine hd d hm ?_
        by_cases hjk : j = d
        · subst hjk; exact hjun
        · rw [getD_set_ne true hjk] at hun; exact hun
      refine wpOp_mono (fun a' w' h3 => ⟨h3.2.1, ih (listed.setIfInBounds j true) a' w' hfree' (hc.set hj) hd' (ready_mono hr (Ne.symm hji)) h3.1 (h3.2.1 hjd hS) ?_⟩) h2
      rw [Array.setIfInBounds_comm _ _ hji]
      exact h3.2.2
/-- A call that only computes, taken first. -/
theorem takeC_ {i : Nat} {N : Option Tmp} {oi : Oper} {v : Value} {fuel : Nat} {l : Array Bool} {a : Act} {w : World} (l' : Array Bool) (hi : ops[i]? = some oi) (hN : oi.dst = N) (hc : takeB md ops ds l l' i = true)
    (hQ : ∀ c a w, Q (.panic c) (a.put oi.dst v) w → Q (.panic c) a w) (hw : Region.wanted oi (yielded ops a.tmps) = true) (f : FuncId) (args : Array Value) (hrun : ∀ w, (execOp a.eval oi).run P w = .ok (.enter f args) w) (hcall : ∀ w, S w → Calls P f args w fun e w' => e = .returned v ∧ w' = w) (hS : S w) {a' : Act} (ha : a.put N v = a')
    (h : wpAnyLast P md ops Q S ds fuel l' a' w) : wpAnyLast P md ops Q S ds (fuel + 1) l a w := by
  subst ha
  subst hN
  simp only [takeB, Bool.and_eq_true, beq_iff_eq] at hc
  obtain ⟨⟨⟨⟨⟨h1, h2⟩, h3⟩, h4⟩, h5⟩, h6⟩ := hc
  subst h6
  exact first_call hi (Region.noSelect_spec h1) hQ ops.size fuel l a w (Region.free_spec hi h2) (Region.closedB_spec h4) (fun d hm hun => by have := List.all_eq_true.1 h5 d hm; rw [hun] at this; simpa using this) (by simpa using h3) ⟨hw, f, args, hrun, hcall⟩ hS h
/-- An operation that yields a value and may make memory. -/
theorem ev_ {o : Oper} {a : Act} {W w1 : World} {K : Act → World → Prop} {v : Value} (hw : Region.wanted o (yielded ops a.tmps) = true) (hrun : (execOp a.eval o).run P W = .ok (.value v) w1) (h : K (a.put o.dst v) w1) :
    if Region.wanted o (yielded ops a.tmps) = true then Oper.wp P o a W K Q else K (a.put o.dst undef) W := by
  rw [if_pos hw]
  unfold Oper.wp
  rw [hrun]
  exact h
/-- A store of one cell. -/
theorem st_ {o : Oper} {a : Act} {W : World} {K : Act → World → Prop} (hw : Region.wanted o (yielded ops a.tmps) = true) (t : TypeId) (p x : Operand) (ho : o.op = .store t p x) {g i : Nat} {T : TypeId} {cur : Array Value} {u : Value} (haddr : a.eval p = .pointer (some ⟨g, i, none⟩)) (hx : a.eval x = u)
    (ht : (P.info? t).map (·.size) = some 1) (hu : u.cells = #[u]) (h1 : u.oneCell' = true) (hh : W.heap[g]? = some (.cells cur T (0, 0))) (hi : i < cur.size) (h : K (a.put o.dst undef) (W.setCell ⟨g, i, none⟩ u)) :
    if Region.wanted o (yielded ops a.tmps) = true then Oper.wp P o a W K Q else K (a.put o.dst undef) W := by
  have hrun : (Instr.storeAt t (.pointer (some ⟨g, i, none⟩)) u).run P W = .ok () (W.setCell ⟨g, i, none⟩ u) := run_store_run t u [u] hh (by rw [hu]) (by simpa using ht) (by show i + 1 ≤ _; omega) (by simpa using h1)
  rw [if_pos hw]
  unfold Oper.wp execOp
  simp only [ho, haddr, hx, Sem.run_bind, Sem.run_pure, Result.andThen_ok, hrun]
  exact h
end Go.Proofs.YteaohgebocbehaaGreatDoor.Reg
end
section
/- cnf.Propagate: the walk. Conditions as written in each. -/
set_option linter.unusedVariables false
set_option linter.unusedSimpArgs false
namespace Go.Proofs.YteaohgebocbehaaGreatDoor.Hand
open Go.RowKit Go.Lib Go.Shelf Go.Proofs.YteaohgebocbehaaGreatDoorW Go.Proofs.YteaohgebocbehaaGreatDoorW.PrintWords Go.Proofs.YteaohgebocbehaaGreatDoorW.PrintLast Go.Proofs.YteaohgebocbehaaGreatDoorW.PrintMore Go.Proofs.YteaohgebocbehaaGreatDoor.Plain Go.Proofs.YteaohgebocbehaaGreatDoor.XA Go.Proofs.YteaohgebocbehaaGreatDoor.Fam
attribute [local go_sem] max2_int min2_int max_two min_two max_three min_three max_four min_four
def PropOk (n : Int) (cl : List (List Int)) (start : List Int) (r : List Int) (b : Bool) : Prop := if (propS n cl start).fails then r = [] ∧ b = false else b = true ∧ r.Perm (propS n cl start).list ∧ r.Pairwise fun x y => ¬ y.natAbs < x.natAbs
def PropPost (w : World) (n : Int) (cl : List (List Int)) (start : List Int) (e : Ending) (w' : World) : Prop := ∃ v r b, e = .returned (.tuple #[v, .bool b, .int .i64 0]) ∧ kI.R 3 w' w.heap.size (fun _ => True) v r ∧ PropOk n cl start r b ∧ Below w.heap.size w w'
theorem prop_fails {w w' : World} {n : Int} {cl : List (List Int)} {start : List Int} (hf : (propS n cl start).fails = true) (hb : Below w.heap.size w w') : PropPost w n cl start (.returned (.tuple #[.slice none 0 0, .bool false, .int .i64 0])) w' := by
  refine ⟨_, [], false, rfl, Kd.R_nil _ _ _ _ _, ?_, hb⟩
  unfold PropOk
  rw [if_pos hf]
  exact ⟨rfl, rfl⟩
theorem prop_good {w w' : World} {n : Int} {cl : List (List Int)} {start : List Int} {v : Value} {r : List Int} (hf : ¬ (propS n cl start).fails = true) (hr : kI.R 3 w' w.heap.size (fun _ => True) v r) (h1 : r.Perm (propS n cl start).list) (h2 : r.Pairwise fun x y => ¬ y.natAbs < x.natAbs) (hb : Below w.heap.size w w') : PropPost w n cl start (.returned (.tuple #[v, .bool true, .int .i64 0])) w' := by
  refine ⟨_, r, true, rfl, hr, ?_, hb⟩
  unfold PropOk
  rw [if_neg hf]
  exact ⟨rfl, h1, h2⟩
set_option maxHeartbeats 8000000 in
set_option maxRecDepth 100000 in
theorem Propagate_good (n : Int) (A : Option Addr) (c : Nat) (cl : List (List Int)) (As : Option Addr) (cs : Nat) (start : List Int) (w : World) (hr : kL.C w A cl.length cl) (hc : cl.length ≤ c) (hf : Fine cl) (hs : kI.C w As start.length start) (hsl : start.length ≤ 17592186044416) (hv : validC n cl = true) (hst : start.all (startOk n) = true) :
    Calls Tryz.prog 24 #[.agg #[.int .i64 n, .slice A cl.length c], .slice As start.length cs] w (PropPost w n cl start) := by
  have hu24 := Tryz.underlying24
  have HR := Aside0.mk hr
  have HC := Aside0.mk hc
  have HF := Aside0.mk hf
  have HS := Aside0.mk hs
  have HSL := Aside0.mk hsl
  have HV := Aside0.mk hv
  have HST := Aside0.mk hst
  clear hr hc hf hs hsl hv hst
  go_enter Tryz.func24, Tryz.ntmps24
  go_upto_region 1 with (first | ((with_reducible refine gate_dst (N := 2) rfl ?_); refine box_event ?hg (N := 2) ?hd (cs := #[.int .i64 n, .slice A cl.length c]) (t := 24) ?hr ?_; (case hd => rfl); (case hg => rfl); (case hr => first | (go_simp; done) | (go_simp; rfl)); intro gf hg_ w2 h1_ h2_; have BK2 := Aside0.mk h1_; have HB2 := Aside0.mk h2_; have GEgf := Aside0.mk hg_; clear h1_ h2_ hg_))
  have c20 : w2.cell? ⟨gf, 0, none⟩ = some (.int .i64 n) := (blk_cell BK2.out 0).trans rfl
  have c21 : w2.cell? ⟨gf, 1, none⟩ = some (.slice A cl.length c) := (blk_cell BK2.out 1).trans rfl
  have hvi := (validC_iff _ _).1 HV.out
  have NK := Aside0.mk hvi.1
  clear hvi
  have hvc : Calls Tryz.prog 15 #[.agg #[.int .i64 n, .slice A cl.length c]] w2 fun e w' => e = .returned (.bool true) ∧ Aside0 (Below w.heap.size w w' ∧ w'.heap[gf]? = some (.cells #[.int .i64 n, .slice A cl.length c] 24 (0, 0))) := by
    refine (Valid_calls n A c cl _ (Kd.C_below HR.out HB2.out) HC.out HF.out).mono ?_
    rintro e w4 ⟨rfl, hb⟩
    exact ⟨by rw [HV.out], ⟨⟨below_step HB2.out hb, blk_below BK2.out hb⟩⟩⟩
  have hcf : ∀ W, Aside0 (Below w.heap.size w W ∧ W.heap[gf]? = some (.cells #[.int .i64 n, .slice A cl.length c] 24 (0, 0))) → Calls Tryz.prog 32 #[.slice As start.length cs, .func (.func 55) #[] #[.pointer (some ⟨gf, 0, none⟩)]] W fun e w' => e = .returned (.bool false) ∧ Aside0 (Below w.heap.size w w' ∧ w'.heap[gf]? = some (.cells #[.int .i64 n, .slice A cl.length c] 24 (0, 0))) := by
    intro W hW
    refine (containsFunc (fun x => x) As cs start start (by simp) W (Kd.C_below HS.out hW.out.1) HSL.out (fun y => !startOk n y) 55 #[.pointer (some ⟨gf, 0, none⟩)] prop1_enters (fun _ W2 y hb => prop1_calls gf n _ y W2 (blk_below hW.out.2 hb) NK.out.1 NK.out.2.1)).mono ?_
    rintro e w' ⟨rfl, q, rfl⟩
    refine ⟨?_, ⟨⟨below_drawnN hW.out.1 q, hW.out.2⟩⟩⟩
    have : start.any (fun y => !startOk n y) = false := by
      rw [List.any_eq_false]
      intro x hx
      have := List.all_eq_true.1 HST.out x hx
      simp [this]
    rw [this]
  have HCF := Aside0.mk hcf
  clear hcf
  go_upto_region 3 with (first
    | (go_at_call 15; refine hvc.mono ?_; rintro e w4 ⟨rfl, HB4⟩)
    | (go_at_call 32; refine (HCF.out _ HB4).mono ?_; rintro e w5 ⟨rfl, HB5⟩))
  obtain ⟨a, ha⟩ : ∃ a : Nat, (a : Int) = n + 1 := ⟨(n + 1).toNat, by have := NK.out; omega⟩
  obtain ⟨t, ht⟩ : ∃ t : Int, t = 2 * n := ⟨_, rfl⟩
  obtain ⟨b, hb⟩ : ∃ b : Nat, (b : Int) = t + 2 := ⟨(t + 2).toNat, by have := NK.out; omega⟩
  have k1 : IntKind.i64.wrap (n + 1) = (a : Int) := (IntWalk.i64_in _ (by have := NK.out; omega)).trans ha.symm
  have k2 : wrap64 (n + 1) = (a : Int) := by have := NK.out; unfold wrap64; omega
  have k3 : IntKind.i64.wrap (2 * n) = t := (IntWalk.i64_in _ (by have := NK.out; omega)).trans ht.symm
  have k4 : wrap64 (2 * n) = t := by have := NK.out; unfold wrap64; omega
  have k5 : IntKind.i64.wrap (t + 2) = (b : Int) := (IntWalk.i64_in _ (by have := NK.out; omega)).trans hb.symm
  have k6 : wrap64 (t + 2) = (b : Int) := by have := NK.out; unfold wrap64; omega
  have m1 := print_make (P := Tryz.prog) 25 3 .i64 8 Tryz.underlying25 int_info (by omega) a (by have := NK.out; omega)
  have m2 := print_make_of (P := Tryz.prog) 22 25 (.slice none 0 0) 24 Tryz.underlying22 (by kernel_rfl) rfl (by omega) b (by have := NK.out; omega)
  have HAB := Aside0.mk (And.intro ha (And.intro ht hb))
  clear ha ht hb
  have d20 : w5.cell? ⟨gf, 0, none⟩ = some (.int .i64 n) := (blk_cell HB5.out.2 0).trans rfl
  have d21 : w5.cell? ⟨gf, 1, none⟩ = some (.slice A cl.length c) := (blk_cell HB5.out.2 1).trans rfl
  have e20 : ∀ o, (w5.alloc o).cell? ⟨gf, 0, none⟩ = some (.int .i64 n) := fun o => (blk_cell (blk_alloc HB5.out.2 o) 0).trans rfl
  have e21 : ∀ o, (w5.alloc o).cell? ⟨gf, 1, none⟩ = some (.slice A cl.length c) := fun o => (blk_cell (blk_alloc HB5.out.2 o) 1).trans rfl
  have g20 : ∀ o o', ((w5.alloc o).alloc o').cell? ⟨gf, 0, none⟩ = some (.int .i64 n) := fun o o' => (blk_cell (blk_alloc (blk_alloc HB5.out.2 o) o') 0).trans rfl
  have g21 : ∀ o o', ((w5.alloc o).alloc o').cell? ⟨gf, 1, none⟩ = some (.slice A cl.length c) := fun o o' => (blk_cell (blk_alloc (blk_alloc HB5.out.2 o) o') 1).trans rfl
  go_cut [7] (fun v7 wc => ∃ gs, v7 = .pointer (some ⟨gs, 0, none⟩) ∧ Aside0 (SetOk w5 wc gs n (.slice A cl.length c) (PS.init n)))
  case first =>
    go_region
    all_goals go_wp2
    all_goals go_meet
    case rel =>
      obtain ⟨t1, t2, t3, t4⟩ := three w5 (.cells (madeCells #[.int .i64 0] a) 3) (.cells (madeCells #[.slice none 0 0] b) 25) (.cells #[.int .i64 n, .slice A cl.length c, .slice (some ⟨w5.heap.size, 0, none⟩) a a, .slice (some ⟨w5.heap.size + 1, 0, none⟩) b b, .slice none 0 0, .slice none 0 0, .bool false] 74)
      have hsz := HB5.out.1.size
      have hgf := blk_lt HB5.out.2
      have hab := HAB.out
      have hnk := NK.out
      exact ⟨_, rfl, ⟨init_ok t1 t2 t3 t4 (by omega) (by omega) (by omega) hab.1 (by omega) (by omega) (by omega)⟩⟩
    case rel =>
      obtain ⟨t1, t2, t3, t4⟩ := three w5 (.cells (madeCells #[.slice none 0 0] b) 25) (.cells (madeCells #[.int .i64 0] a) 3) (.cells #[.int .i64 n, .slice A cl.length c, .slice (some ⟨w5.heap.size + 1, 0, none⟩) a a, .slice (some ⟨w5.heap.size, 0, none⟩) b b, .slice none 0 0, .slice none 0 0, .bool false] 74)
      have hsz := HB5.out.1.size
      have hgf := blk_lt HB5.out.2
      have hab := HAB.out
      have hnk := NK.out
      exact ⟨_, rfl, ⟨init_ok t2 t1 t3 t4 (by omega) (by omega) (by omega) hab.1 (by omega) (by omega) (by omega)⟩⟩
  case rest =>
    obtain ⟨gs, rfl, HS0⟩ := hcut
    clear m1 m2 e20 e21 g20 g21 d20 d21 k1 k2 k3 k4 k5 k6 c20 c21 HCF HB4 hvc BK2 HB2
    have HR5 := Aside0.mk (Kd.C_below HR.out HB5.out.1)
    have HS5 := Aside0.mk (Kd.C_below HS.out HB5.out.1)
    have hbc : ∀ W, SetOk w5 W gs n (.slice A cl.length c) (PS.init n) → W.cell? ⟨gf, 1, none⟩ = some (.slice A cl.length c) := fun W h => by
      obtain ⟨vs, h⟩ := h
      exact (blk_cell ((h.below.block gf (blk_lt HB5.out.2)).trans HB5.out.2) 1).trans rfl
    have d21 := hbc _ HS0.out
    clear hbc
    go_wp2
    go_loopg [41] cl.length (fun d v41 wr => ∃ x : Int, v41 = .int .i64 x ∧ Aside0 (0 ≤ x ∧ x + d = cl.length) ∧ (∃ s, Aside0 (SetOk w5 wr gs n (.slice A cl.length c) s) ∧ Aside0 (fillFrom (PS.init n) 0 cl = fillFrom s x (cl.drop x.toNat) ∧ (s.left.length : Int) = x ∧ s.places.length = (2 * n + 2).toNat ∧ s.value = (PS.init n).value ∧ s.list = [] ∧ s.fails = false ∧ ∀ p ∈ s.places, (p.length : Int) ≤ x * 65536)))
    case atStart => exact ⟨0, rfl, ⟨by omega, by omega⟩, PS.init n, HS0, ⟨rfl, rfl, by simp [PS.init], rfl, rfl, rfl, fun p hp => by have := List.eq_of_mem_replicate hp; subst this; simp⟩⟩
    case round =>
      clear d21 HS0
      obtain ⟨x, rfl, HX, s, HSO, HFI⟩ := hrel
      cases gk with
      | succ d1 =>
        have c1 : x < (cl.length : Int) := by have := HX.out; omega
        have p0 := HX.out.1
        have hnk := NK.out
        obtain ⟨ad, A0, c0, e1, hx0, hc0, hrc⟩ := at_L1 HR5.out x p0 c1
        cases e1
        obtain ⟨vs, hS⟩ := HSO.out
        have hx1 := (hS.below.cell (World.block_lt_of_cell? w5 _ hx0)).trans hx0
        have hmem : rd_L1 cl x ∈ cl := by rw [rdL_get p0 c1]; exact List.getElem_mem _
        have hok := ((validC_iff _ _).1 HV.out).2 _ hmem
        have hfil : fillFrom s x (cl.drop x.toNat) = fillFrom (s.clause x (rd_L1 cl x)) (x + 1) (cl.drop (x + 1).toNat) := by rw [drop_rdL p0 c1]; rfl
        have hlen := HF.out.2 _ hmem
        generalize rd_L1 cl x = cc at hx1 hrc hok hfil hc0 hlen
        have b4 : wr.cell? ⟨gs, 4, none⟩ = some (vs 2) := (blk_cell hS.box 4).trans rfl
        have HL2 : Aside0 ((s.left.length + 1) * 8 ≤ 140737488355328) := ⟨by have := HFI.out.2.1; omega⟩
        have HR2 := Aside0.mk hS.left_
        have HSS := Aside0.mk hS
        have h1 : decide (x < (cl.length : Int)) = true := decide_eq_true c1
        have p1 : (0 ≤ x) = True := eq_true p0
        have q1 : (x < (cl.length : Int)) = True := eq_true c1
        obtain ⟨a1, ha1⟩ : ∃ a1 : Int, a1 = x + 1 := ⟨_, rfl⟩
        have ka : IntKind.i64.wrap (x + 1) = a1 := (IntWalk.i64_in _ (by omega)).trans ha1.symm
        have ka2 : wrap64 (x + 1) = a1 := by unfold wrap64; omega
        have HA1 := Aside0.mk ha1
        have HRC := Aside0.mk hrc
        have HOK := Aside0.mk hok
        have HFL := Aside0.mk hfil
        have HLE := Aside0.mk hlen
        clear ha1 c1 hx0 p0 hmem hok hfil hlen hrc hc0 hS hnk
        go_wp2_with ((at_builtin; refine Kd.R_append kI (w0 := w5) (W := wr) w5.heap.size rfl (.tmp 50) (.tmp 53) 25 3 (.int .i64 0) 8 rfl Tryz.underlying25 int_info rfl (by decide) (by omega) (vs 2) s.left (cc.length : Int) [.int .i64 (cc.length : Int)] (fun _ => True) (fun _ => False) rfl rfl rfl (fun _ hk => hk.elim) (fun _ _ => trivial) HR2.out HSS.out.below HSS.out.below.size HL2.out ?_; intro v2 w6 ho hb hg hat; obtain ⟨A2, c2, e2⟩ := Kd.R_slice ho; rw [List.length_append, List.length_singleton] at e2; subst e2; have HN := Aside0.mk (HSS.out.grow2 ho hg hat); have f4 : w6.frozen? ⟨gs, 4, none⟩ = false := blk_frozen HN.out.1 4; have b42 : w6.cell? ⟨gs, 4, none⟩ = some (vs 2) := (blk_cell HN.out.1 4).trans rfl; clear ho hb hg hat))
        have HS7 : Aside0 (SetOk w5 (w6.setCell ⟨gs, 4, none⟩ (.slice A2 (s.left.length + 1) c2)) gs n (.slice (some ad) cl.length c) { s with left := s.left ++ [(cc.length : Int)] }) := ⟨⟨_, HN.out.2.1⟩⟩
        clear HN f4 b42 b4 HSS HR2 HL2 HSO
        go_loopg [59] cc.length (fun d v59 wr => ∃ y : Int, v59 = .int .i64 y ∧ Aside0 (0 ≤ y ∧ y + d = cc.length) ∧ (∃ s2, Aside0 (SetOk w5 wr gs n (.slice (some ad) cl.length c) s2) ∧ Aside0 (s.clause x cc = (cc.drop y.toNat).foldl (PS.place x) s2 ∧ s2.left = s.left ++ [(cc.length : Int)] ∧ s2.places.length = s.places.length ∧ s2.value = s.value ∧ s2.list = s.list ∧ s2.fails = s.fails ∧ ∀ p ∈ s2.places, (p.length : Int) ≤ x * 65536 + y)))
        case atStart => exact ⟨0, rfl, ⟨by omega, by omega⟩, _, HS7, ⟨rfl, rfl, rfl, rfl, rfl, rfl, fun p hp => by have := HFI.out.2.2.2.2.2.2 p hp; omega⟩⟩
        case round =>
          obtain ⟨y, rfl, HY, s2, HSO2, HFI2⟩ := hrel
          cases gk with
          | zero =>
            have h2 : decide (y < (cc.length : Int)) = false := decide_eq_false (by have := HY.out; omega)
            go_wp2
            go_roundg d1
            case measure => omega
            case rel =>
              have hd : cc.drop y.toNat = [] := List.drop_eq_nil_of_le (by have := HY.out; omega)
              have hcl := HFI2.out.1
              rw [hd] at hcl
              have hf := HFI.out
              have hf2 := HFI2.out
              refine ⟨a1, rfl, ⟨by have := HA1.out; have := HX.out; omega, by have := HA1.out; have := HX.out; omega⟩, s2, HSO2, ⟨?_, ?_, ?_, ?_, ?_, ?_, ?_⟩⟩
              · rw [hf.1, HFL.out, hcl, HA1.out]; rfl
              · rw [hf2.2.1, HA1.out]; simp; omega
              · rw [hf2.2.2.1, hf.2.2.1]
              · rw [hf2.2.2.2.1, hf.2.2.2.1]
              · rw [hf2.2.2.2.2.1, hf.2.2.2.2.1]
              · rw [hf2.2.2.2.2.2.1, hf.2.2.2.2.2.1]
              · intro p hp
                have h1 := hf2.2.2.2.2.2.2 p hp
                have h2 := clauseOk_length NK.out.1 HOK.out
                have := NK.out; have := HY.out; have := HA1.out
                omega
          | succ d2 =>
            have c2 : y < (cc.length : Int) := by have := HY.out; omega
            have y0 := HY.out.1
            have hnk := NK.out
            obtain ⟨vs, hS⟩ := HSO2.out
            obtain ⟨ad2, e2, hy0⟩ := Kd.at_int HRC.out y y0 c2
            cases e2
            have hy1 := (hS.below.cell (World.block_lt_of_cell? w5 _ hy0)).trans hy0
            have hb := ((clauseOk_iff _ _).1 HOK.out).2 _ (rd_mem cc y y0 c2)
            have hpl := HFI2.out.2.2.1.trans HFI.out.2.2.1
            have hfold : (cc.drop y.toNat).foldl (PS.place x) s2 = (cc.drop (y + 1).toNat).foldl (PS.place x) (s2.place x (PrintWords.rd cc y)) := by rw [drop_rd y0 c2]; rfl
            obtain ⟨l, hl⟩ : ∃ l : Int, l = PrintWords.rd cc y := ⟨_, rfl⟩
            rw [← hl] at hy1 hb hfold
            have hidx : idx l < s2.places.length := by rw [hpl]; unfold idx; split <;> omega
            obtain ⟨kk, hkk⟩ : ∃ kk : Int, kk = (idx l : Int) := ⟨_, rfl⟩
            have hkt : kk.toNat = idx l := by omega
            have hcall : ∀ W', Calls Tryz.prog 56 #[.int .i64 l] W' fun e w' => e = .returned (.int .i64 kk) ∧ w' = W' := fun W' => by
              rw [hkk]; exact index_calls l (by omega) (by omega) W'
            obtain ⟨gp, capp, curp, ep, gp0, gp1, gp2, gp3, gp4⟩ := hS.places_ (by omega)
            have hbox := hS.box
            rw [ep] at hbox
            have f1 : wr.drew.cell? ⟨gs, 3, none⟩ = some (.slice (some ⟨gp, 0, none⟩) s2.places.length capp) := (blk_cell (blk_drew hbox) 3).trans rfl
            have f2 : wr.drew.cell? ⟨gp, kk.toNat, none⟩ = some (vs (kk.toNat + 4)) := by rw [hkt]; exact (gp4 _ hidx).1
            have f1a : ∀ o, (wr.drew.alloc o).cell? ⟨gs, 3, none⟩ = some (.slice (some ⟨gp, 0, none⟩) s2.places.length capp) := fun o => (blk_cell (blk_alloc (blk_drew hbox) o) 3).trans rfl
            have f2a : ∀ o, (wr.drew.alloc o).cell? ⟨gp, kk.toNat, none⟩ = some (vs (kk.toNat + 4)) := fun o => by
              have h := blk_cell (blk_alloc (blk_drew gp2) o) kk.toNat
              have h2 := blk_cell (blk_drew gp2) kk.toNat
              rw [h, ← h2]; exact f2
            have hSd : SetSt w5 wr.drew gs n (.slice (some ad) cl.length c) s2 vs := hS.later ⟨rfl, rfl, rfl, Nat.le_refl _, fun _ _ => rfl⟩
            have HRP := Aside0.mk (hSd.place_ (idx l) hidx)
            rw [← hkt] at HRP
            have HSD := Aside0.mk hSd
            have HGP := Aside0.mk (And.intro ep (And.intro gp0 (And.intro (blk_drew gp2) (And.intro (show kk.toNat < s2.places.length by omega) (show kk.toNat < curp.size by omega)))))
            have HF2 := Aside0.mk f2
            have h2 : decide (y < (cc.length : Int)) = true := decide_eq_true c2
            have r1 : (0 ≤ y) = True := eq_true y0
            have r2 : (y < (cc.length : Int)) = True := eq_true c2
            have r3 : (0 ≤ kk) = True := eq_true (by omega)
            have r4 : (kk < (s2.places.length : Int)) = True := eq_true (by omega)
            obtain ⟨b1, hb1⟩ : ∃ b1 : Int, b1 = y + 1 := ⟨_, rfl⟩
            have kb : IntKind.i64.wrap (y + 1) = b1 := (IntWalk.i64_in _ (by have := HLE.out; omega)).trans hb1.symm
            have kb2 : wrap64 (y + 1) = b1 := by have := HLE.out; unfold wrap64; omega
            have HB1 := Aside0.mk hb1
            have HKT := Aside0.mk hkt
            have HFO := Aside0.mk hfold
            have HPB : Aside0 ((((s2.places.getD (idx l) []).length + 1) * 8) ≤ 140737488355328) := ⟨by
              have hm : s2.places.getD (idx l) [] ∈ s2.places := by rw [List.getD, List.getElem?_eq_getElem hidx]; exact List.getElem_mem hidx
              have := HFI2.out.2.2.2.2.2.2 _ hm
              have := clauseOk_length NK.out.1 HOK.out
              have := HX.out; have := HY.out
              omega⟩
            rw [← hkt] at HPB
            have HCALL := Aside0.mk hcall
            clear hl hb hfold hidx hkk hkt hcall ep gp0 gp1 gp2 gp3 gp4 hbox hSd hS hb1 c2 y0 hnk hy0 hpl
            go_wp2
            refine start_ (n := 19) (S := fun W' => W'.cell? ⟨gs, 3, none⟩ = some (.slice (some ⟨gp, 0, none⟩) s2.places.length capp) ∧ W'.cell? ⟨gp, kk.toNat, none⟩ = some (vs (kk.toNat + 4))) (ds := [18]) #[false, false, false, false, false, false, false, false, false, false, false, false, false, false, false, false, false, false, false] (by kernel_rfl) rfl rfl (⟨f1, f2⟩) (fun hHeld => ?_)
            refine pure_ (i := 0) (N := some 63) (v := ?_) (a' := ?_) #[true, false, false, false, false, false, false, false, false, false, false, false, false, false, false, false, false, false, false] rfl rfl (by kernel_rfl) (fun _ _ _ h => h) (Or.inl ⟨by rfl, ?_⟩) ?_ ?_
            rotate_left
            · intro w'
              go_simp
              with_reducible rfl
            rotate_left
            · simp only [Act.put, sA, sZ, sS, i64_w]
              rfl
            refine pure_ (i := 1) (N := some 64) (v := ?_) (a' := ?_) #[true, true, false, false, false, false, false, false, false, false, false, false, false, false, false, false, false, false, false] rfl rfl (by kernel_rfl) (fun _ _ _ h => h) (Or.inl ⟨by rfl, ?_⟩) ?_ ?_
            rotate_left
            · intro w'
              go_simp
              with_reducible rfl
            rotate_left
            · simp only [Act.put, sA, sZ, sS, i64_w]
              rfl
            refine pure_ (i := 2) (N := some 65) (v := ?_) (a' := ?_) #[true, true, true, false, false, false, false, false, false, false, false, false, false, false, false, false, false, false, false] rfl rfl (by kernel_rfl) (fun _ _ _ h => h) (Or.inl ⟨by rfl, ?_⟩) ?_ ?_
            rotate_left
            · intro w'
              go_simp
              with_reducible rfl
            rotate_left
            · simp only [Act.put, sA, sZ, sS, i64_w]
              rfl
            refine take_ (i := 3) (N := some 66) (v := ?_) (a' := ?_) #[true, true, true, true, false, false, false, false, false, false, false, false, false, false, false, false, false, false, false] rfl rfl (by kernel_rfl) (fun _ _ _ h => h) (Or.inl ⟨by rfl, ?_⟩) hHeld ?_ ?_
            rotate_left
            · rintro w' ⟨s0_, s1_⟩
              go_simp
              with_reducible rfl
            rotate_left
            · simp only [Act.put, sA, sZ, sS, i64_w]
              rfl
            refine pure_ (i := 4) (N := some 67) (v := ?_) (a' := ?_) #[true, true, true, true, true, false, false, false, false, false, false, false, false, false, false, false, false, false, false] rfl rfl (by kernel_rfl) (fun _ _ _ h => h) (Or.inl ⟨by rfl, ?_⟩) ?_ ?_
            rotate_left
            · intro w'
              go_simp
              with_reducible rfl
            rotate_left
            · simp only [Act.put, sA, sZ, sS, i64_w]
              rfl
            refine Reg.takeC_ (i := 5) (N := some 68) (v := .int .i64 kk) (a' := ?_) #[true, true, true, true, true, true, false, false, false, false, false, false, false, false, false, false, false, false, false] rfl rfl (by kernel_rfl) (fun _ _ _ h => h) (by rfl) 56 #[.int .i64 l] ?_ (fun w' _ => HCALL.out w') hHeld ?_ ?_
            · intro w'
              go_simp
              try rfl
            rotate_left
            · simp only [Act.put, sA, sZ, sS, i64_w]
              rfl
            refine pure_ (i := 6) (N := some 69) (v := ?_) (a' := ?_) #[true, true, true, true, true, true, true, false, false, false, false, false, false, false, false, false, false, false, false] rfl rfl (by kernel_rfl) (fun _ _ _ h => h) (Or.inl ⟨by rfl, ?_⟩) ?_ ?_
            rotate_left
            · intro w'
              go_simp
              with_reducible rfl
            rotate_left
            · simp only [Act.put, sA, sZ, sS, i64_w]
              rfl
            refine pure_ (i := 7) (N := some 70) (v := ?_) (a' := ?_) #[true, true, true, true, true, true, true, true, false, false, false, false, false, false, false, false, false, false, false] rfl rfl (by kernel_rfl) (fun _ _ _ h => h) (Or.inl ⟨by rfl, ?_⟩) ?_ ?_
            rotate_left
            · intro w'
              go_simp
              with_reducible rfl
            rotate_left
            · simp only [Act.put, sA, sZ, sS, i64_w]
              rfl
            refine pure_ (i := 8) (N := some 71) (v := ?_) (a' := ?_) #[true, true, true, true, true, true, true, true, true, false, false, false, false, false, false, false, false, false, false] rfl rfl (by kernel_rfl) (fun _ _ _ h => h) (Or.inl ⟨by rfl, ?_⟩) ?_ ?_
            rotate_left
            · intro w'
              go_simp
              with_reducible rfl
            rotate_left
            · simp only [Act.put, sA, sZ, sS, i64_w]
              rfl
            refine take_ (i := 9) (N := some 72) (v := ?_) (a' := ?_) #[true, true, true, true, true, true, true, true, true, true, false, false, false, false, false, false, false, false, false] rfl rfl (by kernel_rfl) (fun _ _ _ h => h) (Or.inl ⟨by rfl, ?_⟩) hHeld ?_ ?_
            rotate_left
            · rintro w' ⟨s0_, s1_⟩
              go_simp
              with_reducible rfl
            rotate_left
            · simp only [Act.put, sA, sZ, sS, i64_w]
              rfl
            refine pure_ (i := 10) (N := some 73) (v := ?_) (a' := ?_) #[true, true, true, true, true, true, true, true, true, true, true, false, false, false, false, false, false, false, false] rfl rfl (by kernel_rfl) (fun _ _ _ h => h) (Or.inl ⟨by rfl, ?_⟩) ?_ ?_
            rotate_left
            · intro w'
              go_simp
              with_reducible rfl
            rotate_left
            · simp only [Act.put, sA, sZ, sS, i64_w]
              rfl
            refine Reg.takeC_ (i := 11) (N := some 74) (v := .int .i64 kk) (a' := ?_) #[true, true, true, true, true, true, true, true, true, true, true, true, false, false, false, false, false, false, false] rfl rfl (by kernel_rfl) (fun _ _ _ h => h) (by rfl) 56 #[.int .i64 l] ?_ (fun w' _ => HCALL.out w') hHeld ?_ ?_
            · intro w'
              go_simp
              try rfl
            rotate_left
            · simp only [Act.put, sA, sZ, sS, i64_w]
              rfl
            refine pure_ (i := 12) (N := some 75) (v := ?_) (a' := ?_) #[true, true, true, true, true, true, true, true, true, true, true, true, true, false, false, false, false, false, false] rfl rfl (by kernel_rfl) (fun _ _ _ h => h) (Or.inl ⟨by rfl, ?_⟩) ?_ ?_
            rotate_left
            · intro w'
              go_simp
              with_reducible rfl
            rotate_left
            · simp only [Act.put, sA, sZ, sS, i64_w]
              rfl
            refine take_ (i := 13) (N := some 76) (v := ?_) (a' := ?_) #[true, true, true, true, true, true, true, true, true, true, true, true, true, true, false, false, false, false, false] rfl rfl (by kernel_rfl) (fun _ _ _ h => h) (Or.inl ⟨by rfl, ?_⟩) hHeld ?_ ?_
            rotate_left
            · rintro w' ⟨s0_, s1_⟩
              go_simp
              with_reducible rfl
            rotate_left
            · simp only [Act.put, sA, sZ, sS, i64_w]
              rfl
            refine pure_ (i := 14) (N := some 77) (v := ?_) (a' := ?_) #[true, true, true, true, true, true, true, true, true, true, true, true, true, true, true, false, false, false, false] rfl rfl (by kernel_rfl) (fun _ _ _ h => h) (Or.inl ⟨by rfl, ?_⟩) ?_ ?_
            rotate_left
            · intro w'
              go_simp
              with_reducible rfl
            rotate_left
            · simp only [Act.put, sA, sZ, sS, i64_w]
              rfl
            refine one_ (i := 15) (N := some 78) #[true, true, true, true, true, true, true, true, true, true, true, true, true, true, true, true, false, false, false] rfl rfl (by kernel_rfl) (by decide) (fun K hK => ?_)
            refine Reg.ev_ (v := .slice (some ⟨wr.drew.heap.size, 0, none⟩) 1 1) (w1 := wr.drew.alloc (.cells #[.int .i64 x] 3)) (by rfl) (by go_simp; try rfl) ?_
            refine hK.out _ _ ⟨f1a _, f2a _⟩ (fun hHeld => ?_)
            clear hK K
            refine norm_ (a' := ?_) ?_ ?_
            rotate_left
            · show Act.put _ (some 78) _ = _
              simp only [Act.put, sA, sZ, sS, i64_w]
              rfl
            refine one_ (i := 16) (N := some 79) #[true, true, true, true, true, true, true, true, true, true, true, true, true, true, true, true, true, false, false] rfl rfl (by kernel_rfl) (by decide) (fun K hK => ?_)
            refine Kd.R_append_step kI (w0 := w5) (W := wr.drew) w5.heap.size rfl (.tmp 76) (.tmp 78) 25 3 (.int .i64 0) 8 rfl Tryz.underlying25 int_info rfl (by decide) (by omega) (vs (kk.toNat + 4)) (s2.places.getD kk.toNat []) x [.int .i64 x] (fun _ => True) (fun _ => False) rfl rfl rfl (fun _ hk => hk.elim) (fun _ _ => trivial) HRP.out HSD.out.below HSD.out.below.size HPB.out ?_
            intro v2 w8 ho hb hg hat
            obtain ⟨A3, c3, e3⟩ := Kd.R_slice ho
            rw [List.length_append, List.length_singleton] at e3
            generalize (s2.places.getD kk.toNat []).length + 1 = ln at e3
            subst e3
            have HN2 := Aside0.mk (HSD.out.growP HGP.out.2.2.2.1 HGP.out.1 HGP.out.2.1 HGP.out.2.2.1 ho hg hat)
            have f1n : w8.cell? ⟨gs, 3, none⟩ = some (.slice (some ⟨gp, 0, none⟩) s2.places.length capp) := (by rw [← HGP.out.1]; exact (blk_cell HN2.out.1 3).trans rfl)
            have f2n : w8.cell? ⟨gp, kk.toNat, none⟩ = some (vs (kk.toNat + 4)) := (by rw [blk_cell HN2.out.2.1, ← blk_cell HGP.out.2.2.1]; exact HF2.out)
            clear ho hb hg hat
            refine hK.out _ _ ⟨f1n, f2n⟩ (fun hHeld => ?_)
            clear hK K
            refine norm_ (a' := ?_) ?_ ?_
            rotate_left
            · show Act.put _ (some 79) _ = _
              simp only [Act.put, sA, sZ, sS, i64_w]
              rfl
            refine pure_ (i := 17) (N := some 80) (v := ?_) (a' := ?_) #[true, true, true, true, true, true, true, true, true, true, true, true, true, true, true, true, true, true, false] rfl rfl (by kernel_rfl) (fun _ _ _ h => h) (Or.inl ⟨by rfl, ?_⟩) ?_ ?_
            rotate_left
            · intro w'
              go_simp
              with_reducible rfl
            rotate_left
            · simp only [Act.put, sA, sZ, sS, i64_w]
              rfl
            refine last_ (i := 18) (N := none) #[true, true, true, true, true, true, true, true, true, true, true, true, true, true, true, true, true, true, true] rfl rfl (by kernel_rfl) (by decide) (fun K hK => ?_)
            refine Reg.st_ (by rfl) 25 (.tmp 80) (.tmp 79) rfl (g := gp) (i := kk.toNat) (T := 25) (cur := curp) (u := .slice A3 ln c3) rfl rfl ints_size rfl rfl HN2.out.2.1 HGP.out.2.2.2.2 ?_
            refine hK.out _ _ ?_
            clear hK K
            refine done_ (by kernel_rfl) ?_
            have HS9 : Aside0 (SetOk w5 (w8.setCell ⟨gp, kk.toNat, none⟩ (.slice A3 ln c3)) gs n (.slice (some ad) cl.length c) (s2.place x l)) := ⟨by
              have h := HN2.out.2.2.1
              rw [HKT.out] at h ⊢
              exact ⟨_, h⟩⟩
            go_wp2
            go_roundg d2
            case measure => omega
            case rel =>
              have hf2 := HFI2.out
              refine ⟨b1, rfl, ⟨by have := HB1.out; have := HY.out; omega, by have := HB1.out; have := HY.out; omega⟩, _, HS9, ⟨?_, hf2.2.1, ?_, hf2.2.2.2.1, hf2.2.2.2.2.1, hf2.2.2.2.2.2.1, ?_⟩⟩
              · rw [hf2.1, HFO.out, HB1.out]
              · simp only [PS.place, List.length_set]; exact hf2.2.2.1
              · intro p hp
                simp only [PS.place] at hp
                have hb1 := HB1.out
                rcases List.mem_or_eq_of_mem_set hp with h | h
                · have := hf2.2.2.2.2.2.2 p h; omega
                · have hm : s2.places.getD (idx l) [] ∈ s2.places := by rw [List.getD, List.getElem?_eq_getElem (by rw [← HKT.out]; exact HGP.out.2.2.2.1)]; exact List.getElem_mem _
                  have := hf2.2.2.2.2.2.2 _ hm
                  rw [h, List.length_append, List.length_singleton]
                  omega
      | zero =>
        have hnk := NK.out
        have h1 : decide (x < (cl.length : Int)) = false := decide_eq_false (by have := HX.out; omega)
        have hsf : s = fillFrom (PS.init n) 0 cl := by
          have h := HFI.out.1
          have e : cl.drop x.toNat = [] := List.drop_eq_nil_of_le (by have := HX.out; omega)
          rw [e] at h
          exact h.symm
        obtain ⟨ks, hks⟩ := HSO.out
        have HS1 : Aside0 (SetOk2 w5 wr gs n (.slice A cl.length c) s ks) := ⟨⟨ks, hks, fun _ _ => rfl⟩⟩
        have hcls := ((validC_iff _ _).1 HV.out).2
        have HSI : Aside0 (SInv n cl.length s) := ⟨by rw [hsf]; exact fill_SInv hnk.1 hcls⟩
        have HSF := Aside0.mk hsf
        have HCL := Aside0.mk hcls
        have HBC : Aside0 (∀ W s ks, SetOk2 w5 W gs n (.slice A cl.length c) s ks → W.cell? ⟨gf, 1, none⟩ = some (.slice A cl.length c)) := ⟨fun W s ks h => by
          obtain ⟨vs, h, _⟩ := h
          exact (blk_cell ((h.below.block gf (blk_lt HB5.out.2)).trans HB5.out.2) 1).trans rfl⟩
        clear hsf hks hcls hnk HSO HFI
        go_wp2
        go_loopg [85] start.length (fun d v85 wr => ∃ x : Int, v85 = .int .i64 x ∧ Aside0 (0 ≤ x ∧ x + d = start.length) ∧ (∃ s2, Aside0 (SetOk2 w5 wr gs n (.slice A cl.length c) s2 ks) ∧ Aside0 (start.foldl PS.add s = (start.drop x.toNat).foldl PS.add s2 ∧ SInv n cl.length s2)))
        case atStart => exact ⟨0, rfl, ⟨by omega, by omega⟩, s, HS1, ⟨rfl, HSI.out⟩⟩
        case round =>
          clear HS1 HSI
          obtain ⟨x2, rfl, HX2, s2, HSO, HFI⟩ := hrel
          cases gk with
          | succ d1 =>
            have c1 : x2 < (start.length : Int) := by have := HX2.out; omega
            have p0 := HX2.out.1
            have hnk := NK.out
            obtain ⟨ad, e1, hx0⟩ := Kd.at_int HS5.out x2 p0 c1
            cases e1
            have hx1 : wr.cell? (ad.add x2.toNat) = some (.int .i64 (PrintWords.rd start x2)) := by
              obtain ⟨vs, hS, _⟩ := HSO.out
              exact (hS.below.cell (World.block_lt_of_cell? w5 _ hx0)).trans hx0
            have hl : startOk n (PrintWords.rd start x2) = true := List.all_eq_true.1 HST.out _ (rd_mem start x2 p0 c1)
            have hl := of_decide_eq_true hl
            have hfold : (start.drop x2.toNat).foldl PS.add s2 = (start.drop (x2 + 1).toNat).foldl PS.add (s2.add (PrintWords.rd start x2)) := by rw [drop_rd p0 c1]; rfl
            generalize PrintWords.rd start x2 = l at hx1 hl hfold
            have hsi := HFI.out.2
            have hsv := hsi.val
            have hsl := hsi.list_le
            have HADD := Aside0.mk (add_calls w5 wr gs n (.slice A cl.length c) s2 ks l HSO.out (by omega) (by omega) (by omega) (by omega))
            have HSN := Aside0.mk (hsi.add (l := l) (by omega) (by omega))
            obtain ⟨a1, ha1⟩ : ∃ a1 : Int, a1 = x2 + 1 := ⟨_, rfl⟩
            have ka : IntKind.i64.wrap (x2 + 1) = a1 := (IntWalk.i64_in _ (by have := HSL.out; omega)).trans ha1.symm
            have ka2 : wrap64 (x2 + 1) = a1 := by have := HSL.out; unfold wrap64; omega
            have h2 : decide (x2 < (start.length : Int)) = true := decide_eq_true c1
            have p1 : (0 ≤ x2) = True := eq_true p0
            have q1 : (x2 < (start.length : Int)) = True := eq_true c1
            have HA1 := Aside0.mk ha1
            have HFO := Aside0.mk hfold
            clear hl hfold hsi hsv hsl ha1 c1 p0 hx0 hnk
            go_wp2_with (go_at_call 57; refine HADD.out.mono ?_; rintro e w7 ⟨rfl, h7⟩; have HS7 := Aside0.mk h7; clear h7)
            go_roundg d1
            case measure => omega
            case rel => exact ⟨a1, rfl, ⟨by have := HA1.out; have := HX2.out; omega, by have := HA1.out; have := HX2.out; omega⟩, _, HS7, ⟨by rw [HFI.out.1, HFO.out, HA1.out], HSN.out⟩⟩
          | zero =>
            have h2 : decide (x2 < (start.length : Int)) = false := decide_eq_false (by have := HX2.out; omega)
            have hs2 : s2 = start.foldl PS.add (fillFrom (PS.init n) 0 cl) := by
              have h := HFI.out.1
              have e : start.drop x2.toNat = [] := List.drop_eq_nil_of_le (by have := HX2.out; omega)
              rw [e, HSF.out] at h
              exact h.symm
            have HSF2 := Aside0.mk hs2
            have HSI2 := Aside0.mk HFI.out.2
            have d21 := HBC.out _ _ _ HSO.out
            clear hs2 HFI
            go_wp2
            go_loopg [96] cl.length (fun d v96 wr => ∃ x : Int, v96 = .int .i64 x ∧ Aside0 (0 ≤ x ∧ x + d = cl.length) ∧ (∃ s3, Aside0 (SetOk2 w5 wr gs n (.slice A cl.length c) s3 ks) ∧ Aside0 (PS.tryFrom cl cl.length s2 0 = PS.tryFrom cl d s3 x ∧ SInv n cl.length s3)))
            case atStart => exact ⟨0, rfl, ⟨by omega, by omega⟩, s2, HSO, ⟨rfl, HSI2.out⟩⟩
            case round =>
              clear d21 HSO HSI2
              obtain ⟨x3, rfl, HX3, s3, HSO, HFI⟩ := hrel
              cases gk with
              | succ d1 =>
                have c1 : x3 < (cl.length : Int) := by have := HX3.out; omega
                have p0 := HX3.out.1
                have hnk := NK.out
                have hsi := HFI.out.2
                have hsv := hsi.val
                have hsl := hsi.list_le
                have hll := hsi.left
                obtain ⟨vs, hS, hks⟩ := HSO.out
                obtain ⟨gl, capl, curl, el, gl0, gl1, gl2, gl3, gl4⟩ := hS.row 2 s3.left rfl rfl (by omega)
                have hbox := hS.box
                rw [el] at hbox
                have b4 : wr.cell? ⟨gs, 4, none⟩ = some (.slice (some ⟨gl, 0, none⟩) s3.left.length capl) := (blk_cell hbox 4).trans rfl
                have hxt : ((x3.toNat : Nat) : Int) = x3 := by omega
                have l0 : wr.cell? ⟨gl, x3.toNat, none⟩ = some (.int .i64 (PrintWords.rd s3.left x3)) := by rw [(gl4 x3.toNat (by omega)).1, hxt]
                have hmem : x3.toNat < cl.length := by omega
                have hok : clauseOk n (cl.getD x3.toNat []) = true := by
                  rw [List.getD, List.getElem?_eq_getElem hmem]
                  exact HCL.out _ (List.getElem_mem hmem)
                have hlit := ((clauseOk_iff n _).1 hok).2
                have hlen := clauseOk_length hnk.1 hok
                have HLOOK := Aside0.mk (look_calls w5 wr gs n A c cl s3 ks x3 HR5.out HSO.out p0 c1 (by omega) (by omega) (fun l hl => by have := hlit l hl; omega) (by omega) (by omega) (by omega))
                have HSN := Aside0.mk (hsi.tryC HCL.out x3)
                obtain ⟨a1, ha1⟩ : ∃ a1 : Int, a1 = x3 + 1 := ⟨_, rfl⟩
                have ka : IntKind.i64.wrap (x3 + 1) = a1 := (IntWalk.i64_in _ (by omega)).trans ha1.symm
                have ka2 : wrap64 (x3 + 1) = a1 := by unfold wrap64; omega
                have h3 : decide (x3 < (cl.length : Int)) = true := decide_eq_true c1
                have p1 : (0 ≤ x3) = True := eq_true p0
                have q1 : (x3 < (s3.left.length : Int)) = True := eq_true (by omega)
                have HA1 := Aside0.mk ha1
                have htry : s3.tryC cl x3 = if PrintWords.rd s3.left x3 < 2 then s3.look cl x3 else s3 := rfl
                clear hsi hsv hsl hll hS hks el gl0 gl1 gl2 gl3 gl4 hbox hxt hmem hok hlit hlen ha1 c1 p0 hnk
                by_cases ht : PrintWords.rd s3.left x3 < 2
                · have hd : decide (PrintWords.rd s3.left x3 < 2) = true := decide_eq_true ht
                  have HTR : Aside0 (s3.tryC cl x3 = s3.look cl x3) := ⟨by rw [htry, if_pos ht]⟩
                  clear ht htry
                  go_wp2_with (go_at_call 58; refine HLOOK.out.mono ?_; rintro e w7 ⟨rfl, h7⟩; have HS7 := Aside0.mk h7; clear h7)
                  go_roundg d1
                  case measure => omega
                  case rel => exact ⟨a1, rfl, ⟨by have := HA1.out; have := HX3.out; omega, by have := HA1.out; have := HX3.out; omega⟩, _, HS7, ⟨by rw [HFI.out.1, PS.tryFrom, HTR.out, HA1.out], by rw [← HTR.out]; exact HSN.out⟩⟩
                · have hd : decide (PrintWords.rd s3.left x3 < 2) = false := decide_eq_false ht
                  have HTR : Aside0 (s3.tryC cl x3 = s3) := ⟨by rw [htry, if_neg ht]⟩
                  clear ht htry
                  go_wp2
                  go_roundg d1
                  case measure => omega
                  case rel => exact ⟨a1, rfl, ⟨by have := HA1.out; have := HX3.out; omega, by have := HA1.out; have := HX3.out; omega⟩, _, HSO, ⟨by rw [HFI.out.1, PS.tryFrom, HTR.out, HA1.out], HFI.out.2⟩⟩
              | zero =>
                have h3 : decide (x3 < (cl.length : Int)) = false := decide_eq_false (by have := HX3.out; omega)
                have hs3 : s3 = PS.tryFrom cl cl.length (start.foldl PS.add (fillFrom (PS.init n) 0 cl)) 0 := by
                  have h := HFI.out.1
                  rw [HSF2.out] at h
                  exact h.symm
                have HSF3 := Aside0.mk hs3
                have HSI3 := Aside0.mk HFI.out.2
                clear hs3 HFI
                go_wp2
                go_loopg [15] (n + 1).toNat (fun d v15 wr => ∃ k : Int, v15 = .int .i64 k ∧ Aside0 (0 ≤ k ∧ k + d = n + 1) ∧ (∃ s4, Aside0 (SetOk2 w5 wr gs n (.slice A cl.length c) s4 ks) ∧ Aside0 (PS.run cl (n + 1).toNat s3 0 = PS.run cl d s4 k ∧ SInv n cl.length s4)))
                case atStart => exact ⟨0, rfl, ⟨by omega, by have := NK.out; omega⟩, s3, HSO, ⟨rfl, HSI3.out⟩⟩
                case round =>
                  clear HSO HSI3
                  obtain ⟨k, rfl, HX4, s4, HSO, HFI⟩ := hrel
                  have hnk := NK.out
                  have hsi := HFI.out.2
                  have hsv := hsi.val
                  have hsl := hsi.list_le
                  obtain ⟨vs, hS, hks⟩ := HSO.out
                  obtain ⟨A3, c3, e3⟩ := Kd.R_slice hS.list_
                  have hbox := hS.box
                  rw [e3] at hbox
                  have b5 : wr.cell? ⟨gs, 5, none⟩ = some (.slice A3 s4.list.length c3) := (blk_cell hbox 5).trans rfl
                  have b6 : wr.cell? ⟨gs, 6, none⟩ = some (.bool s4.fails) := (blk_cell hbox 6).trans rfl
                  by_cases hc : k < (s4.list.length : Int) ∧ s4.fails = false
                  · cases gk with
                    | zero => exact absurd hc.1 (by have := HX4.out; omega)
                    | succ d1 =>
                      have k0 := HX4.out.1
                      have hk := hc.1
                      obtain ⟨gq, capq, curq, eq, gq0, gq1, gq2, gq3, gq4⟩ := hS.row 3 s4.list rfl rfl (by omega)
                      rw [e3] at eq
                      injection eq with q1 q2 q3
                      subst q1
                      subst q3
                      have hkt : ((k.toNat : Nat) : Int) = k := by omega
                      have l5 : wr.cell? ⟨gq, k.toNat, none⟩ = some (.int .i64 (PrintWords.rd s4.list k)) := by rw [(gq4 k.toNat (by omega)).1, hkt]
                      have hlit := hsi.lits _ (rd_mem s4.list k k0 hk)
                      have hrun := run_go cl d1 s4 k hc
                      rw [hc.2] at b6
                      generalize PrintWords.rd s4.list k = l at l5 hlit hrun
                      obtain ⟨nl, hnl⟩ : ∃ nl : Int, nl = -l := ⟨_, rfl⟩
                      rw [← hnl] at hrun
                      have kn : IntKind.i64.wrap (-l) = nl := (IntWalk.i64_in _ (by omega)).trans hnl.symm
                      have kn2 : wrap64 (-l) = nl := by unfold wrap64; omega
                      have hpl := hsi.pl
                      have hidx : idx nl < s4.places.length := by unfold idx; split <;> omega
                      obtain ⟨kk, hkk⟩ : ∃ kk : Int, kk = (idx nl : Int) := ⟨_, rfl⟩
                      have hkkt : kk.toNat = idx nl := by omega
                      have hcall : ∀ W', Calls Tryz.prog 56 #[.int .i64 nl] W' fun e w' => e = .returned (.int .i64 kk) ∧ w' = W' := fun W' => by
                        rw [hkk]; exact index_calls nl (by omega) (by omega) W'
                      obtain ⟨gp, capp, curp, ep, gp0, gp1, gp2, gp3, gp4⟩ := hS.places_ (by omega)
                      have hbox3 := hS.box
                      rw [ep] at hbox3
                      have b3 : wr.cell? ⟨gs, 3, none⟩ = some (.slice (some ⟨gp, 0, none⟩) s4.places.length capp) := (blk_cell hbox3 3).trans rfl
                      obtain ⟨Ap, cp, epl⟩ := Kd.R_slice (hS.place_ (idx nl) hidx)
                      have b3p : wr.cell? ⟨gp, kk.toNat, none⟩ = some (.slice Ap (s4.places.getD (idx nl) []).length cp) := by rw [hkkt, (gp4 _ hidx).1, epl]
                      have eks : ks (idx nl + 4) = .slice Ap (s4.places.getD (idx nl) []).length cp := by rw [← hks _ (by omega), epl]
                      have hpm : s4.places.getD (idx nl) [] ∈ s4.places := by rw [List.getD, List.getElem?_eq_getElem hidx]; exact List.getElem_mem hidx
                      have hpi := hsi.idx _ hpm
                      obtain ⟨PL, hPL⟩ : ∃ PL, PL = s4.places.getD (idx nl) [] := ⟨_, rfl⟩
                      rw [← hPL] at b3p eks hpi hrun
                      have hple : PL.length ≤ 9223372036854775807 := by
                        have h := (hS.place_ (idx nl) hidx)
                        rw [← hPL] at h
                        obtain ⟨_, _, _, h1, h2⟩ := Kd.R_reads h
                        exact h2.2.1
                      have h4 : decide (k < (s4.list.length : Int)) = true := decide_eq_true hk
                      have r1 : (0 ≤ k) = True := eq_true k0
                      have r2 : (k < (s4.list.length : Int)) = True := eq_true hk
                      have r3 : (0 ≤ kk) = True := eq_true (by omega)
                      have r4 : (kk < (s4.places.length : Int)) = True := eq_true (by omega)
                      obtain ⟨a1, ha1⟩ : ∃ a1 : Int, a1 = k + 1 := ⟨_, rfl⟩
                      have ka : IntKind.i64.wrap (k + 1) = a1 := (IntWalk.i64_in _ (by omega)).trans ha1.symm
                      have ka2 : wrap64 (k + 1) = a1 := by unfold wrap64; omega
                      have HA1 := Aside0.mk ha1
                      have HRUN := Aside0.mk hrun
                      have HPI := Aside0.mk hpi
                      have HPL := Aside0.mk hPL
                      have HEK := Aside0.mk eks
                      have HPN := Aside0.mk hple
                      have HID := Aside0.mk hidx
                      have HSI := Aside0.mk hsi
                      have HCA := Aside0.mk hcall
                      clear hc k0 hk e3 gq0 gq1 gq2 gq3 gq4 hkt hlit hrun hnl hpl hidx hkk hkkt hcall ep gp0 gp1 gp2 gp3 gp4 hbox3 hbox epl eks hpm hpi hPL hple ha1 hS hks hsi hsv hsl hnk
                      go_wp2
                      go_quiet ((go_at_call 56; exact Calls.quiet_of_same (HCA.out _)))
                      go_wp2
                      go_loopg [143] PL.length (fun d v143 wr => ∃ y : Int, v143 = .int .i64 y ∧ Aside0 (0 ≤ y ∧ y + d = PL.length) ∧ (∃ s5, Aside0 (SetOk2 w5 wr gs n (.slice A cl.length c) s5 ks) ∧ Aside0 (PL.foldl (PS.dec cl) s4 = (PL.drop y.toNat).foldl (PS.dec cl) s5 ∧ SInv n cl.length s5 ∧ s5.places = s4.places)))
                      case atStart =>
                        refine ⟨0, rfl, ⟨by omega, by omega⟩, s4, ⟨?_⟩, ⟨rfl, HSI.out, rfl⟩⟩
                        obtain ⟨vs, h1, h2⟩ := HSO.out
                        exact ⟨vs, h1.later (below_dr _ _), h2⟩
                      case round =>
                        clear b5 b6 l5 b3 b3p HSO
                        obtain ⟨y, rfl, HY, s5, HSO, HF5⟩ := hrel
                        cases gk with
                        | zero =>
                          have h5 : decide (y < (PL.length : Int)) = false := decide_eq_false (by have := HY.out; omega)
                          go_wp2
                          go_roundg d1
                          case measure => omega
                          case rel =>
                            have e : PL.drop y.toNat = [] := List.drop_eq_nil_of_le (by have := HY.out; omega)
                            have hf := HF5.out.1
                            rw [e] at hf
                            exact ⟨a1, rfl, ⟨by have := HA1.out; have := HX4.out; omega, by have := HA1.out; have := HX4.out; omega⟩, s5, HSO, ⟨by rw [HFI.out.1, HRUN.out, hf, HA1.out]; rfl, HF5.out.2.1⟩⟩
                        | succ d2 =>
                          have c5 : y < (PL.length : Int) := by have := HY.out; omega
                          have y0 := HY.out.1
                          have hnk := NK.out
                          have hsi := HF5.out.2.1
                          have hsv := hsi.val
                          have hsl := hsi.list_le
                          have hll := hsi.left
                          have hci := HPI.out _ (rd_mem PL y y0 c5)
                          obtain ⟨vs, hS, hks⟩ := HSO.out
                          have hpl5 : s5.places.getD (idx nl) [] = PL := by rw [HF5.out.2.2, HPL.out]
                          obtain ⟨gP, capP, curP, eP, gP0, gP1, gP2, gP3, gP4⟩ := hS.row (idx nl + 4) PL (by show nI (s5.places.getD (idx nl) []) = nI PL; rw [hpl5]) rfl (by omega)
                          rw [hks _ (by omega), HEK.out] at eP
                          injection eP with q1 q2 q3
                          have Q1 := Aside0.mk q1
                          have hyt : ((y.toNat : Nat) : Int) = y := by omega
                          have l6 : wr.cell? ⟨gP, y.toNat, none⟩ = some (.int .i64 (PrintWords.rd PL y)) := by rw [(gP4 y.toNat (by omega)).1, hyt]
                          have hfold : (PL.drop y.toNat).foldl (PS.dec cl) s5 = (PL.drop (y + 1).toNat).foldl (PS.dec cl) (s5.dec cl (PrintWords.rd PL y)) := by rw [drop_rd y0 c5]; rfl
                          generalize PrintWords.rd PL y = cc at l6 hci hfold
                          obtain ⟨gl, capl, curl, el, gl0, gl1, gl2, gl3, gl4⟩ := hS.row 2 s5.left rfl rfl (by omega)
                          have hbox := hS.box
                          rw [el] at hbox
                          have b4 : wr.cell? ⟨gs, 4, none⟩ = some (.slice (some ⟨gl, 0, none⟩) s5.left.length capl) := (blk_cell hbox 4).trans rfl
                          have hct : ((cc.toNat : Nat) : Int) = cc := by omega
                          have l7 : wr.cell? ⟨gl, cc.toNat, none⟩ = some (.int .i64 (PrintWords.rd s5.left cc)) := by rw [(gl4 cc.toNat (by omega)).1, hct]
                          obtain ⟨lv, hlv⟩ : ∃ lv : Int, lv = wrap64 (PrintWords.rd s5.left cc - 1) := ⟨_, rfl⟩
                          have kl : wrap64 (PrintWords.rd s5.left cc - 1) = lv := hlv.symm
                          have kl2 : IntKind.i64.wrap (PrintWords.rd s5.left cc - 1) = lv := (i64_w _).trans hlv.symm
                          obtain ⟨s6, hs6⟩ : ∃ s6 : PS, s6 = { s5 with left := s5.left.set cc.toNat lv } := ⟨_, rfl⟩
                          have hdec : s5.dec cl cc = s6.tryC cl cc := by unfold PS.dec; rw [hs6, hlv]
                          have hrd : PrintWords.rd s6.left cc = lv := by
                            rw [hs6]
                            unfold PrintWords.rd
                            simp only [List.getD]
                            rw [List.getElem?_set_self (by omega)]
                            rfl
                          have hs6i : SInv n cl.length s6 := by rw [hs6]; exact hsi.leftSet _ _
                          have hs6v := hs6i.val
                          have hs6l := hs6i.list_le
                          have hs6p : s6.places = s5.places := by rw [hs6]
                          have htry : s6.tryC cl cc = if lv < 2 then s6.look cl cc else s6 := by rw [← hrd]; rfl
                          have hmem : cc.toNat < cl.length := by omega
                          have hok : clauseOk n (cl.getD cc.toNat []) = true := by
                            rw [List.getD, List.getElem?_eq_getElem hmem]
                            exact HCL.out _ (List.getElem_mem hmem)
                          have hlit := ((clauseOk_iff n _).1 hok).2
                          have hlen := clauseOk_length hnk.1 hok
                          have HLOOK := Aside0.mk (fun W h => look_calls w5 W gs n A c cl s6 ks cc HR5.out h hci.1 (by omega) (by rw [hs6]; simp; omega) (by omega) (fun l hl => by have := hlit l hl; omega) (by omega) (by omega) (by omega))
                          have HST : Aside0 (∀ w8, w8 = wr.setCell ⟨gl, cc.toNat, none⟩ (.int .i64 lv) → SetOk2 w5 w8 gs n (.slice A cl.length c) s6 ks ∧ w8.cell? ⟨gs, 4, none⟩ = some (.slice (some ⟨gl, 0, none⟩) s5.left.length capl) ∧ w8.cell? ⟨gl, cc.toNat, none⟩ = some (.int .i64 lv)) := ⟨by
                            rintro w8 rfl
                            have h8 := hS.leftSet el gl1 gl0 cc.toNat lv
                            rw [← hs6] at h8
                            refine ⟨⟨vs, h8, hks⟩, ?_, ?_⟩
                            · have hb8 := h8.box
                              rw [el] at hb8
                              exact (blk_cell hb8 4).trans rfl
                            · rw [blk_cell (blk_set gl2 cc.toNat (.int .i64 lv)), Array.getElem?_setIfInBounds, if_pos rfl, if_pos (by omega)]⟩
                          have HGL := Aside0.mk (And.intro gl2 (show cc.toNat < curl.size by omega))
                          have HSN : Aside0 (SInv n cl.length (s6.tryC cl cc)) := ⟨hs6i.tryC HCL.out cc⟩
                          have HPP : Aside0 ((s6.tryC cl cc).places = s4.places) := ⟨by rw [tryC_places, hs6p, HF5.out.2.2]⟩
                          have h5 : decide (y < (PL.length : Int)) = true := decide_eq_true c5
                          have r1 : (0 ≤ y) = True := eq_true y0
                          have r2 : (y < (PL.length : Int)) = True := eq_true c5
                          have r3 : (0 ≤ cc) = True := eq_true hci.1
                          have r4 : (cc < (s5.left.length : Int)) = True := eq_true (by omega)
                          obtain ⟨b1, hb1⟩ : ∃ b1 : Int, b1 = y + 1 := ⟨_, rfl⟩
                          have kb : IntKind.i64.wrap (y + 1) = b1 := (IntWalk.i64_in _ (by have := HPN.out; omega)).trans hb1.symm
                          have kb2 : wrap64 (y + 1) = b1 := by have := HPN.out; unfold wrap64; omega
                          have HB1 := Aside0.mk hb1
                          rw [hdec] at hfold
                          have HFO := Aside0.mk hfold
                          have HS6I := Aside0.mk hs6i
                          clear c5 y0 hnk hsi hsv hsl hll hci hS hks hpl5 gP0 gP1 gP2 gP3 gP4 q1 q2 q3 hyt hfold el gl0 gl1 gl2 gl3 gl4 hbox hct hlv hs6 hdec hrd hs6i hs6v hs6l hs6p hmem hok hlit hlen hb1
                          have q1 := Q1.out
                          subst q1
                          by_cases ht : lv < 2
                          · have hd : decide (lv < 2) = true := decide_eq_true ht
                            have HTR : Aside0 (s6.tryC cl cc = s6.look cl cc) := ⟨by rw [htry, if_pos ht]⟩
                            clear ht htry
                            go_wp2_with (first
                              | ((with_reducible refine gate_ (.store 3 (.tmp 155) (.tmp 154)) rfl ?_); refine Fam.st_cell rfl rfl 3 (.tmp 155) (.tmp 154) rfl (g := gl) (i := cc.toNat) (T := 3) (cur := curl) (u := .int .i64 lv) rfl rfl int_size rfl rfl HGL.out.1 HGL.out.2 ?_; intro w8 hw8; obtain ⟨h8, d4, d7⟩ := HST.out w8 hw8; have HS8 := Aside0.mk h8; clear h8 hw8)
                              | (go_at_call 58; refine (HLOOK.out _ HS8.out).mono ?_; rintro e w7 ⟨rfl, h7⟩; have HS7 := Aside0.mk h7; clear h7))
                            go_roundg d2
                            case measure => omega
                            case rel => exact ⟨b1, rfl, ⟨by have := HB1.out; have := HY.out; omega, by have := HB1.out; have := HY.out; omega⟩, _, HS7, ⟨by rw [HF5.out.1, HFO.out, HTR.out, HB1.out], by rw [← HTR.out]; exact HSN.out, by rw [← HTR.out]; exact HPP.out⟩⟩
                          · have hd : decide (lv < 2) = false := decide_eq_false ht
                            have HTR : Aside0 (s6.tryC cl cc = s6) := ⟨by rw [htry, if_neg ht]⟩
                            clear ht htry
                            go_wp2_with (first
                              | ((with_reducible refine gate_ (.store 3 (.tmp 155) (.tmp 154)) rfl ?_); refine Fam.st_cell rfl rfl 3 (.tmp 155) (.tmp 154) rfl (g := gl) (i := cc.toNat) (T := 3) (cur := curl) (u := .int .i64 lv) rfl rfl int_size rfl rfl HGL.out.1 HGL.out.2 ?_; intro w8 hw8; obtain ⟨h8, d4, d7⟩ := HST.out w8 hw8; have HS8 := Aside0.mk h8; clear h8 hw8))
                            go_roundg d2
                            case measure => omega
                            case rel => exact ⟨b1, rfl, ⟨by have := HB1.out; have := HY.out; omega, by have := HB1.out; have := HY.out; omega⟩, _, HS8, ⟨by rw [HF5.out.1, HFO.out, HTR.out, HB1.out], HS6I.out, by rw [← HTR.out]; exact HPP.out⟩⟩
                  · have hstop : propS n cl start = s4 := by
                      unfold propS
                      rw [← HSF3.out, HFI.out.1, run_stop _ _ _ _ hc]
                    have HP := Aside0.mk hstop
                    have HSS := Aside0.mk hS
                    by_cases hf : s4.fails = true
                    · rw [hf] at b6
                      have HFT := Aside0.mk hf
                      have HSI := Aside0.mk hsi
                      clear hstop hc hsi hsv hsl hks hbox hS hf hnk
                      by_cases hk : k < (s4.list.length : Int)
                      · have h4 : decide (k < (s4.list.length : Int)) = true := decide_eq_true hk
                        clear hk
                        go_wp2
                        go_ret3
                        exact prop_fails (by rw [HP.out]; exact HFT.out) (below_step HB5.out.1 HSS.out.below)
                      · have h4 : decide (k < (s4.list.length : Int)) = false := decide_eq_false hk
                        clear hk
                        go_wp2
                        go_ret3
                        exact prop_fails (by rw [HP.out]; exact HFT.out) (below_step HB5.out.1 HSS.out.below)
                    · have hf2 : s4.fails = false := by simpa using hf
                      rw [hf2] at b6
                      have h4 : decide (k < (s4.list.length : Int)) = false := decide_eq_false (fun h => hc ⟨h, hf2⟩)
                      have HFT := Aside0.mk hf
                      have HSI := Aside0.mk hsi
                      have hso := sort_list hS (by omega) (fun l hl => by have := (hsi.lits l hl).2; omega)
                      rw [e3] at hso
                      have HSO2 := Aside0.mk hso
                      clear hstop hc hsi hsv hsl hks hbox hS hf hf2 hnk hso
                      go_wp2_with (go_at_call 42; refine HSO2.out.mono ?_; rintro e w9 ⟨rfl, hy, hb9, d5⟩; have HY9 := Aside0.mk hy; have HB9 := Aside0.mk hb9; clear hy hb9)
                      go_ret3
                      obtain ⟨ys, hp, hpw, hr⟩ := HY9.out
                      exact prop_good (by rw [HP.out]; exact HFT.out) (Kd.R_lower hr HB5.out.1.size) (by rw [HP.out]; exact hp) hpw (below_step HB5.out.1 HB9.out)
end Go.Proofs.YteaohgebocbehaaGreatDoor.Hand
end
section
/- The chapter's examples, reckoned. No conditions. -/
set_option linter.unusedVariables false
namespace Go.Proofs.YteaohgebocbehaaGreatDoor.Plain
open Go.Lib Go.Proofs.YteaohgebocbehaaGreatDoor.XA Go.Proofs.YteaohgebocbehaaGreatDoor.Hand
def fcl : List (List Int) := [[-1], [2, -4], [-3, -4], [-2, 3, 4], [4]]
def ptx : List UInt8 := [112, 32, 99, 110, 102, 32, 50, 32, 49, 10, 49, 32, 45, 50, 32, 48, 10]
theorem a_trans : transC 2 [⟨2, 5⟩] [6] = (4, fcl, 0) := by decide +kernel
theorem a_valid : validC 4 fcl = true := by decide +kernel
theorem a_start : ([2, -3] : List Int).all (startOk 4) = true := by decide +kernel
theorem a_prop : (propS 4 fcl [2, -3]).fails = false ∧ (propS 4 fcl [2, -3]).list = [2, -3, -1, 4] := by decide +kernel
theorem a_norm : nrm [3, -2, 3] = ([-2, 3], true) := by decide +kernel
theorem a_parse : parseC ptx = (2, [[1, -2]], 0) := by decide +kernel
theorem a_format : formatC 2 [[1, -2]] = ptx := by decide +kernel
theorem a_holds : holdsC 4 fcl [-1, 2, -3, 4] = true := by decide +kernel
theorem a_lit : litC 5 = -3 := by decide +kernel
end Go.Proofs.YteaohgebocbehaaGreatDoor.Plain
end
section
/- A map[[2]int]bool that the call made and only adds to: what a look-up tells, what a store leaves. Conditions as written in each. -/
set_option linter.unusedVariables false
set_option linter.unusedSimpArgs false
namespace Go.Proofs.YteaohgebocbehaaGreatDoor.MapB
open Go.RowKit Go.Proofs.YteaohgebocbehaaGreatDoorW.PrintWords

abbrev pairV (p : Int × Int) : Value := .agg #[.int .i64 p.1, .int .i64 p.2]
theorem cells62 : Tryz.prog.cellsOf 62 = 2 := by kernel_rfl
theorem cells3 : Tryz.prog.cellsOf 3 = 1 := by kernel_rfl
theorem key_lits (p : Int × Int) (h1 : (Lit.int .i64 p.1).wf = true) (h2 : (Lit.int .i64 p.2).wf = true) (D : Nat) : Tryz.prog.keyLits (D + 2) 62 [.int .i64 p.1, .int .i64 p.2] = some [.int .i64 p.1, .int .i64 p.2] := by
  have e1 := Tryz.underlying62
  have e2 := Tryz.underlying3
  have c1 := cells62
  have c2 := cells3
  simp [Program.keyLits, e1, e2, c1, c2, h1, h2, List.range_succ]
theorem key_formed (p : Int × Int) : (pairV p).formed Tryz.prog 62 = true := by
  have e1 := Tryz.underlying62
  have c1 := cells62
  simp [Value.formed, e1, c1]
theorem key_some (p : Int × Int) (h1 : (Lit.int .i64 p.1).wf = true) (h2 : (Lit.int .i64 p.2).wf = true) : ∃ l, keyOf Tryz.prog 62 (pairV p) = some l := by
  have e1 := Tryz.underlying62
  have h3 : Tryz.prog.keyType 62 = true := by kernel_rfl
  have h4 := key_formed p
  have h5 : 1 ≤ Tryz.prog.types.size := by
    have : decide (1 ≤ Tryz.prog.types.size) = true := by kernel_rfl
    exact of_decide_eq_true this
  obtain ⟨D, hD⟩ : ∃ D, Tryz.prog.types.size + 1 = D + 2 := ⟨Tryz.prog.types.size - 1, by omega⟩
  refine ⟨.string (keyBytes [.int .i64 p.1, .int .i64 p.2]), ?_⟩
  unfold keyOf
  rw [e1]
  simp only [h3, h4, Bool.and_self, if_true]
  rw [hD]
  have := key_lits p h1 h2 D
  simp only [pairV, Value.cells, Array.toList] at this ⊢
  rw [this]
  rfl
theorem key_type : Tryz.prog.keyTypeAt 5 62 = true := by kernel_rfl
theorem key_tiled : Tryz.prog.tiled 5 62 = true := by kernel_rfl
theorem key_wide : (match Tryz.prog.underlying 62 with | some (.array _ _) | some (.struct _) => true | _ => false) = true := by kernel_rfl
/-- Numbers that are ints. -/
def PairOk (p : Int × Int) : Prop := (Lit.int .i64 p.1).wf = true ∧ (Lit.int .i64 p.2).wf = true
def ents (gs : List (Int × Int)) : Array MapEntry := (gs.zipIdx.map fun x => ({ key := pairV x.1, val := .bool true, born := x.2 } : MapEntry)).toArray
theorem ents_push (gs : List (Int × Int)) (p : Int × Int) : ents (gs ++ [p]) = (ents gs).push { key := pairV p, val := .bool true, born := gs.length } := by
  simp [ents, List.zipIdx_append]
theorem ents_nil : ents [] = #[] := rfl
theorem check_run (em : Bool) (p : Int × Int) (h : PairOk p) (w : World) : (Instr.checkKey em 10000 62 (pairV p)).run Tryz.prog w = .ok () w :=
  run_checkKey_deep (P := Tryz.prog) em 9995 5 62 key_type w (0 + 2) (pairV p) _ (key_formed p) (key_lits p h.1 h.2 0)
set_option maxRecDepth 100000 in
theorem eq_run (w : World) {x y : Value} {lx ly : Lit} (hx : keyOf Tryz.prog 62 x = some lx) (hy : keyOf Tryz.prog 62 y = some ly) : ∃ r : Bool, (Op.equal 62 x y).run Tryz.prog w = .ok r w ∧ (r = true ↔ lx = ly) :=
  run_equal_deep w (m := 5) (Nat.le_of_ble_eq_true rfl) key_type key_wide hx hy
set_option maxRecDepth 100000 in
theorem ask_run (p : Int × Int) (h : PairOk p) (w : World) (l : List (Int × Int)) (hl : ∀ q ∈ l, PairOk q) (k i : Nat) :
    (p ∉ l ∧ (Instr.findAsking 62 (pairV p) ((l.zipIdx k).map fun x => ({ key := pairV x.1, val := .bool true, born := x.2 } : MapEntry)) i).run Tryz.prog w = .ok none w) ∨
    (p ∈ l ∧ ∃ j, (Instr.findAsking 62 (pairV p) ((l.zipIdx k).map fun x => ({ key := pairV x.1, val := .bool true, born := x.2 } : MapEntry)) i).run Tryz.prog w = .ok (some (j, .bool true)) w) := by
  obtain ⟨lx, hx⟩ := key_some p h.1 h.2
  have hall : ∀ e ∈ (l.zipIdx k).map (fun x => ({ key := pairV x.1, val := .bool true, born := x.2 } : MapEntry)), ∃ q ∈ l, e.key = pairV q ∧ e.val = .bool true := by
    intro e he
    obtain ⟨x, hx, rfl⟩ := List.mem_map.1 he
    exact ⟨x.1, (List.mem_zipIdx hx).2.2 ▸ List.getElem_mem _, rfl, rfl⟩
  rcases run_findAsking_of w (fun hx hy => eq_run w hx hy) hx _ i (fun e he => by
      obtain ⟨q, hq, e1, _⟩ := hall e he
      rw [e1]
      exact key_some q (hl q hq).1 (hl q hq).2) with ⟨h1, h2⟩ | ⟨j, e, h1, h2, h3⟩
  · refine .inl ⟨fun hm => ?_, h1⟩
    obtain ⟨j, hj, hjp⟩ := List.getElem_of_mem hm
    have hin : ({ key := pairV p, val := .bool true, born := k + j } : MapEntry) ∈ (l.zipIdx k).map (fun x => ({ key := pairV x.1, val := .bool true, born := x.2 } : MapEntry)) :=
      List.mem_map.2 ⟨(p, k + j), by rw [← hjp]; exact by rw [List.mem_iff_getElem?]; exact ⟨j, by simp [List.getElem?_zipIdx, hj]⟩, rfl⟩
    exact h2 _ hin hx
  · have he : e ∈ (l.zipIdx k).map (fun x => ({ key := pairV x.1, val := .bool true, born := x.2 } : MapEntry)) := List.mem_of_getElem? h2
    obtain ⟨q, hq, e1, e2⟩ := hall e he
    rw [e1] at h3
    have := keyOf_inj_deep key_tiled key_wide h3 hx
    have hqp : q = p := by
      injection this with h
      injection h with h
      injection h with h4 h5
      injection h5 with h5
      injection h4 with _ h4
      injection h5 with _ h5
      exact Prod.ext h4 h5
    rw [hqp] at hq
    rw [e2] at h1
    exact .inr ⟨hq, _, h1⟩
theorem find_run (p : Int × Int) (h : PairOk p) (w : World) (l : List (Int × Int)) (hl : ∀ q ∈ l, PairOk q) :
    (p ∉ l ∧ (Instr.findKey 62 (pairV p) (ents l).toList).run Tryz.prog w = .ok none w) ∨ (p ∈ l ∧ ∃ j, (Instr.findKey 62 (pairV p) (ents l).toList).run Tryz.prog w = .ok (some (j, .bool true)) w) := by
  have e1 := run_underlying (w := w) Tryz.underlying62
  cases l with
  | nil => exact .inl ⟨by simp, by simp [Instr.findKey, ents, Instr.findNow, e1]⟩
  | cons q t =>
    have hh := ask_run p h w (q :: t) hl 0 0
    have e2 : (Instr.findKey 62 (pairV p) (ents (q :: t)).toList).run Tryz.prog w = (Instr.findAsking 62 (pairV p) (((q :: t).zipIdx 0).map fun x => ({ key := pairV x.1, val := .bool true, born := x.2 } : MapEntry)) 0).run Tryz.prog w := by
      simp [Instr.findKey, ents, Instr.findNow, Instr.sameNow, e1]
    rw [e2]
    exact hh
theorem lookup_run (b : Nat) (l : List (Int × Int)) (w : World) (hb : w.heap[b]? = some (.map (ents l) l.length)) (p : Int × Int) (h : PairOk p) (hl : ∀ q ∈ l, PairOk q) :
    (Instr.lookup 102 (.map (some b)) (.agg #[.int .i64 p.1, .int .i64 p.2]) false).run Tryz.prog w = .ok (.bool (decide (p ∈ l))) w := by
  have e1 := run_underlying (w := w) Tryz.underlying102
  have e0 : (getObj b).run Tryz.prog w = .ok (.map (ents l) l.length) w := by simp [getObj, Sem.run, hb]
  have e2 : (Instr.checkKey (ents l).isEmpty 10000 62 (.agg #[.int .i64 p.1, .int .i64 p.2])).run Tryz.prog w = .ok () w := check_run (ents l).isEmpty p h w
  have e3 : (zeroValue 4).run Tryz.prog w = .ok (.bool false) w := by kernel_rfl
  rcases find_run p h w l hl with ⟨h1, h2⟩ | ⟨h1, j, h2⟩
  · have h2 : (Instr.findKey 62 (.agg #[.int .i64 p.1, .int .i64 p.2]) (ents l).toList).run Tryz.prog w = .ok none w := h2
    simp [Instr.lookup, e1, e0, e2, h2, e3, h1]
  · have h2 : (Instr.findKey 62 (.agg #[.int .i64 p.1, .int .i64 p.2]) (ents l).toList).run Tryz.prog w = .ok (some (j, .bool true)) w := h2
    simp [Instr.lookup, e1, e0, e2, h2, h1]
/-- A new key is added. -/
theorem update_run (b : Nat) (l : List (Int × Int)) (w : World) (hb : w.heap[b]? = some (.map (ents l) l.length)) (p : Int × Int) (h : PairOk p) (hl : ∀ q ∈ l, PairOk q) (hp : p ∉ l) :
    ∃ w1, (Instr.mapUpdate 102 (.map (some b)) (.agg #[.int .i64 p.1, .int .i64 p.2]) (.bool true)).run Tryz.prog w = .ok () w1 ∧ w1.heap[b]? = some (.map (ents (l ++ [p])) (l ++ [p]).length) ∧ w.grownBy w1 (some b) := by
  have e1 := run_underlying (w := w) Tryz.underlying102
  have e0 : (getObj b).run Tryz.prog w = .ok (.map (ents l) l.length) w := by simp [getObj, Sem.run, hb]
  have e2 : (Instr.checkKey false 10000 62 (.agg #[.int .i64 p.1, .int .i64 p.2])).run Tryz.prog w = .ok () w := check_run false p h w
  have e4 : ∀ o : Obj, (setObj b o).run Tryz.prog w = .ok () { w with heap := w.heap.setIfInBounds b o } := fun o => by simp [setObj, Sem.run, hb]
  rcases find_run p h w l hl with ⟨h1, h2⟩ | ⟨h1, j, h2⟩
  · have h2 : (Instr.findKey 62 (.agg #[.int .i64 p.1, .int .i64 p.2]) (ents l).toList).run Tryz.prog w = .ok none w := h2
    have hlt : b < w.heap.size := blk_lt hb
    refine ⟨_, by simp [Instr.mapUpdate, e1, e0, e2, h2, e4]; rfl, ?_, ?_⟩
    · rw [ents_push]
      simp [hlt]
    · refine ⟨rfl, rfl, rfl, by simp, fun k hk hne => ?_⟩
      simp [Array.getElem?_setIfInBounds, show b ≠ k from fun e => hne (by rw [e])]
  · exact absurd h1 hp
theorem make_run (w : World) : (Instr.makeMap 102 none).run Tryz.prog w = .ok (.map (some w.heap.size)) (w.alloc (.map #[] 0)) := by
  have e1 := run_underlying (w := w) Tryz.underlying102
  simp [Instr.makeMap, e1, newObj, Sem.run]
end Go.Proofs.YteaohgebocbehaaGreatDoor.MapB
end
