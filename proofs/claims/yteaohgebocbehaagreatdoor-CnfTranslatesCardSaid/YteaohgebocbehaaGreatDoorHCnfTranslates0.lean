/- Texts of this claim, one behind the other; each begins with what it proves. Conditions as written in each theorem. -/
import Derived.Test.YteaohgebocbehaaGreatDoorHC0
import Derived.Test.YteaohgebocbehaaGreatDoorHC1
import Derived.Test.YteaohgebocbehaaGreatDoorXAx3
import Derived.Test.YteaohgebocbehaaGreatDoorXAx5
import Derived.Test.YteaohgebocbehaaGreatDoorXAx6
import Derived.Test.YteaohgebocbehaaGreatDoorXAx2
import Derived.Test.YteaohgebocbehaaGreatDoorXAx4
import Derived.Test.YteaohgebocbehaaGreatDoorXAx7
import Derived.Test.YteaohgebocbehaaGreatDoorXAx8
import Derived.Test.YteaohgebocbehaaGreatDoorXAx9
section
/- The reference's IsClause and Valid answer as the plain functions. Conditions: lists shorter than 2^62. -/
set_option linter.unusedVariables false
set_option linter.unusedSimpArgs false
namespace Go.Proofs.YteaohgebocbehaaGreatDoor.Plain
open Go.RowKit Go.Proofs.YteaohgebocbehaaGreatDoor.XA Go.Proofs.YteaohgebocbehaaGreatDoorW.PrintWords
theorem rvar_f {x : Int} (h0 : -9223372036854775807 ≤ x) (h1 : x ≤ 9223372036854775807) : assessorref26_Variable.f x = some (x.natAbs : Int) := by
  unfold assessorref26_Variable.f
  split
  · rw [w64 (by omega) (by omega)]; congr 1; omega
  · congr 1; omega
theorem isClause_ev (n : Int) (hn0 : 0 ≤ n) (hn : n ≤ 4611686018427387904) (c : List Int) (hc : c.length ≤ 4611686018427387904) :
    ∀ (d : Nat) (x : Int) (last : Nat), 0 ≤ x → x ≤ c.length → (c.length : Int) - x = d → (x = 0 → last = 0) → (0 < x → (last : Int) = (rd c (x - 1)).natAbs ∧ (last : Int) ≤ n) → Ev (fun k => assessorref26_IsClause.l0 k c n x) (nOk n last (c.drop x.toNat)) := by
  intro d
  induction d with
  | zero =>
    intro x last h0 h1 hd _ _
    rw [List.drop_eq_nil_of_le (by omega)]
    exact Ev.step (f := fun _ => some true) (fun k => by simp only [assessorref26_IsClause.l0]; rw [if_neg (by omega)]) (Ev.now _)
  | succ d ih =>
    intro x last h0 h1 hd hl0 hl1
    have hlt : x < (c.length : Int) := by omega
    rw [drop_rd h0 hlt]
    simp only [nOk]
    have hw : wrap64 (-n) = -n := w64 (by omega) (by omega)
    have hw2 : wrap64 (x + 1) = x + 1 := w64 (by omega) (by omega)
    have hw3 : 0 < x → wrap64 (x - 1) = x - 1 := fun _ => w64 (by omega) (by omega)
    have bad : ∀ b : Bool, b = false → (∀ k, assessorref26_IsClause.l0 (k + 1) c n x = assessorref26_IsClause.j1 k c n x true) → Ev (fun k => assessorref26_IsClause.l0 k c n x) (b && nOk n (rd c x).natAbs (c.drop (x + 1).toNat)) := fun b hb h => by
      rw [hb, Bool.false_and]
      refine Ev.step (f := fun k => assessorref26_IsClause.j1 k c n x true) h ?_
      exact Ev.step (f := fun _ => some false) (fun k => by simp only [assessorref26_IsClause.j1]; rfl) (Ev.now _)
    by_cases h2 : rd c x = 0
    · exact bad _ (decide_eq_false (by omega)) (fun k => by simp only [assessorref26_IsClause.l0]; rw [if_pos hlt, if_pos h0, if_pos h2])
    by_cases h3 : rd c x < -n
    · exact bad _ (decide_eq_false (by omega)) (fun k => by simp only [assessorref26_IsClause.l0]; rw [if_pos hlt, if_pos h0, if_neg h2, if_pos (by rw [hw]; exact h3)])
    by_cases h4 : rd c x > n
    · exact bad _ (decide_eq_false (by omega)) (fun k => by simp only [assessorref26_IsClause.l0]; rw [if_pos hlt, if_pos h0, if_neg h2, if_neg (by rw [hw]; exact h3), if_pos h4])
    have go : ∀ b : Bool, (b = decide (((rd c x).natAbs : Int) ≤ last)) → (∀ k, assessorref26_IsClause.l0 (k + 1) c n x = assessorref26_IsClause.j1 k c n x b) → Ev (fun k => assessorref26_IsClause.l0 k c n x) (decide (-n ≤ rd c x ∧ rd c x ≤ n ∧ last < (rd c x).natAbs) && nOk n (rd c x).natAbs (c.drop (x + 1).toNat)) := fun b hb h => by
      by_cases h5 : ((rd c x).natAbs : Int) ≤ last
      · refine bad _ (decide_eq_false (by omega)) (fun k => by rw [h k, hb, decide_eq_true h5])
      · rw [decide_eq_true (show -n ≤ rd c x ∧ rd c x ≤ n ∧ last < (rd c x).natAbs by omega), Bool.true_and]
        refine Ev.step (f := fun k => assessorref26_IsClause.j1 k c n x false) (fun k => by rw [h k, hb, decide_eq_false h5]) ?_
        refine Ev.step (f := fun k => assessorref26_IsClause.l0 k c n (x + 1)) (fun k => by simp only [assessorref26_IsClause.j1]; rw [hw2]; rfl) (ih (x + 1) _ (by omega) (by omega) (by omega) (by omega) (fun _ => ⟨by rw [show x + 1 - 1 = x by omega], by omega⟩))
    by_cases h5 : x > 0
    · obtain ⟨e1, e2⟩ := hl1 h5
      refine go _ rfl (fun k => ?_)
      simp only [assessorref26_IsClause.l0]
      rw [if_pos hlt, if_pos h0, if_neg h2, if_neg (by rw [hw]; exact h3), if_neg h4, if_pos h5, rvar_f (by omega) (by omega)]
      simp only [Option.bind_some]
      rw [hw3 h5, if_pos (by omega), if_pos (by omega), rvar_f (by omega) (by omega)]
      simp only [Option.bind_some, e1]
    · have e : last = 0 := hl0 (by omega)
      refine go false (by rw [e]; exact (decide_eq_false (by omega)).symm) (fun k => ?_)
      simp only [assessorref26_IsClause.l0]
      rw [if_pos hlt, if_pos h0, if_neg h2, if_neg (by rw [hw]; exact h3), if_neg h4, if_neg h5]
theorem isClause_f (n : Int) (hn0 : 0 ≤ n) (hn : n ≤ 4611686018427387904) (c : List Int) (hc : c.length ≤ 4611686018427387904) : Ev (fun k => assessorref26_IsClause.f k c n) (clauseOk n c) :=
  isClause_ev n hn0 hn c hc c.length 0 0 (by omega) (by omega) (by omega) (fun _ => rfl) (fun h => absurd h (by omega))
theorem rvalid_ev (n : Int) (hn0 : 0 ≤ n) (hn : n ≤ 65536) (cl : List (List Int)) (hc : ∀ c ∈ cl, c.length ≤ 4611686018427387904) (hl : cl.length ≤ 4611686018427387904) :
    ∀ (d : Nat) (x : Int), 0 ≤ x → x ≤ cl.length → (cl.length : Int) - x = d → Ev (fun k => assessorref26_Valid.l0 k x n cl) ((cl.drop x.toNat).all (clauseOk n)) := by
  intro d
  induction d with
  | zero =>
    intro x h0 h1 hd
    rw [List.drop_eq_nil_of_le (by omega)]
    exact Ev.step (f := fun _ => some true) (fun k => by simp only [assessorref26_Valid.l0]; rw [if_neg (by omega)]) (Ev.now _)
  | succ d ih =>
    intro x h0 h1 hd
    have hlt : x < (cl.length : Int) := by omega
    have hw2 : wrap64 (x + 1) = x + 1 := w64 (by omega) (by omega)
    rw [drop_rdL h0 hlt, List.all_cons]
    have hm : rd_L1 cl x ∈ cl := by rw [rdL_get h0 hlt]; exact List.getElem_mem _
    have hf := isClause_f n hn0 (by omega) (rd_L1 cl x) (hc _ hm)
    refine Ev.step (f := fun k => (assessorref26_IsClause.f k (rd_L1 cl x) n).bind fun t => if t = true then assessorref26_Valid.l0 k (wrap64 (x + 1)) n cl else some false) (fun k => by simp only [assessorref26_Valid.l0]; rw [if_pos hlt, if_pos h0]) (Ev.bind hf ?_)
    cases hb : clauseOk n (rd_L1 cl x) with
    | false => simpa using Ev.now false
    | true =>
      rw [hw2]
      simpa using ih (x + 1) (by omega) (by omega) (by omega)
theorem rvalid_f (n : Int) (cl : List (List Int)) (hc : ∀ c ∈ cl, c.length ≤ 4611686018427387904) (hl : cl.length ≤ 4611686018427387904) : Ev (fun k => assessorref26_Valid.f k n cl) (validC n cl) := by
  unfold validC
  by_cases h1 : n < 0
  · rw [decide_eq_false (by omega), Bool.false_and]
    refine Ev.congr (f := fun k => assessorref26_Valid.j0 k true n cl) (fun k => by unfold assessorref26_Valid.f; rw [if_pos h1]) ?_
    exact Ev.step (f := fun _ => some false) (fun k => by simp only [assessorref26_Valid.j0]; rfl) (Ev.now _)
  · by_cases h2 : n > 65536
    · rw [decide_eq_false (by omega), Bool.false_and]
      refine Ev.congr (f := fun k => assessorref26_Valid.j0 k true n cl) (fun k => by unfold assessorref26_Valid.f; rw [if_neg h1, if_pos h2]) ?_
      exact Ev.step (f := fun _ => some false) (fun k => by simp only [assessorref26_Valid.j0]; rfl) (Ev.now _)
    · by_cases h3 : (cl.length : Int) > 262144
      · rw [decide_eq_false (by omega), Bool.false_and]
        refine Ev.congr (f := fun k => assessorref26_Valid.j0 k true n cl) (fun k => by unfold assessorref26_Valid.f; rw [if_neg h1, if_neg h2, decide_eq_true h3]) ?_
        exact Ev.step (f := fun _ => some false) (fun k => by simp only [assessorref26_Valid.j0]; rfl) (Ev.now _)
      · rw [decide_eq_true (by omega), Bool.true_and]
        refine Ev.congr (f := fun k => assessorref26_Valid.j0 k false n cl) (fun k => by unfold assessorref26_Valid.f; rw [if_neg h1, if_neg h2, decide_eq_false h3]) ?_
        refine Ev.step (f := fun k => assessorref26_Valid.l0 k 0 n cl) (fun k => by simp only [assessorref26_Valid.j0]; rfl) ?_
        exact rvalid_ev n (by omega) (by omega) cl hc hl cl.length 0 (by omega) (by omega) (by omega)
end Go.Proofs.YteaohgebocbehaaGreatDoor.Plain
end
section
/- The reference's Normal, Holds and Literal answer as the plain functions. Conditions: short lists. -/
set_option linter.unusedVariables false
set_option linter.unusedSimpArgs false
namespace Go.Proofs.YteaohgebocbehaaGreatDoor.Plain
open Go.RowKit Go.Proofs.YteaohgebocbehaaGreatDoor.Hand Go.Proofs.YteaohgebocbehaaGreatDoor.XA Go.Proofs.YteaohgebocbehaaGreatDoorW.PrintWords
/-- Literals laid in one after the other. -/
def nrmR : List Int → List Int → List Int × Bool
  | out, [] => (out, true)
  | out, x :: t => if inR x then (match ins x out with | some r => nrmR r t | none => ([], false)) else ([], false)
theorem nrmR_eq : ∀ (l out : List Int), nrmR out l = if l.all inR then (match l.foldl (fun (o : Option (List Int)) x => o.bind (ins x)) (some out) with | some r => (r, true) | none => ([], false)) else ([], false)
  | [], out => by simp [nrmR]
  | x :: t, out => by
    simp only [nrmR, List.all_cons, List.foldl_cons, Option.bind_some]
    by_cases hx : inR x = true
    · simp only [hx, if_true, Bool.true_and]
      cases hi : ins x out with
      | some r => simp only; rw [nrmR_eq t r]
      | none =>
        simp only
        rw [foldl_none]
        split <;> rfl
    · rw [if_neg hx]
      simp [hx]
theorem nrm_R (l : List Int) : nrm l = nrmR [] l := by
  rw [nrmR_eq]
  rfl
theorem ins_len (x : Int) : ∀ (l r : List Int), ins x l = some r → r.length ≤ l.length + 1
  | [], r, h => by simp [ins] at h; subst h; simp
  | y :: t, r, h => by
    unfold ins at h
    split at h
    · obtain ⟨q, hq, rfl⟩ := Option.map_eq_some_iff.1 h
      have := ins_len x t q hq
      simp; omega
    · split at h
      · cases h; simp
      · split at h
        · cases h
        · cases h; simp
theorem inR_iff (x : Int) : inR x = true ↔ x ≠ 0 ∧ -1073741824 ≤ x ∧ x ≤ 1073741824 := by simp [inR]
theorem rnormal_l1 (x0 out : List Int) (x5 : Int) (h5 : 0 ≤ x5) (h5' : x5 < (x0.length : Int)) (hl0 : x0.length ≤ 1000000) (ho : out.length ≤ 1000000) (hin : inR (rd x0 x5) = true) (hall : ∀ y ∈ out, inR y = true) (R : List Int × Bool)
    (h1 : ∀ r, ins (rd x0 x5) out = some r → Ev (fun k => assessorref26_Normal.l0 k x0 r (x5 + 1)) R) (h2 : ins (rd x0 x5) out = none → R = ([], false)) :
    ∀ (d : Nat) (i : Int), 0 ≤ i → i ≤ out.length → (out.length : Int) - i = d → (ins (rd x0 x5) out = (ins (rd x0 x5) (out.drop i.toNat)).map (out.take i.toNat ++ ·)) → Ev (fun k => assessorref26_Normal.l1 k x0 out x5 i) R := by
  have hw5 : wrap64 (x5 + 1) = x5 + 1 := w64 (by omega) (by omega)
  have hx := (inR_iff _).1 hin
  have hvx := rvar_f (x := rd x0 x5) (by omega) (by omega)
  have hwx : wrap64 (-(rd x0 x5)) = -(rd x0 x5) := w64 (by omega) (by omega)
  intro d
  induction d with
  | zero =>
    intro i h0 h1' hd hins
    have hil : i = out.length := by omega
    rw [List.drop_eq_nil_of_le (by omega), List.take_of_length_le (by omega)] at hins
    simp only [ins, Option.map_some] at hins
    refine Ev.step (f := fun k => assessorref26_Normal.j3 k x0 out x5 i) (fun k => by simp only [assessorref26_Normal.l1]; rw [if_neg (by omega)]) ?_
    refine Ev.step (f := fun k => assessorref26_Normal.j4 k x0 out x5 i false) (fun k => by simp only [assessorref26_Normal.j3]; rw [if_neg (by omega)]) ?_
    refine Ev.step (fun k => ?_) (h1 _ hins)
    simp only [assessorref26_Normal.j4, Option.bind_some, Bool.false_eq_true, if_false]
    rw [if_neg (by omega), if_pos h0, if_pos (by omega), List.take_of_length_le (by omega), List.drop_eq_nil_of_le (by omega)]
    simp only [List.nil_append, List.append_nil, List.length_nil, Nat.zero_add, Nat.add_zero]
    rw [if_pos (by omega), if_pos h5, if_pos h5', if_pos (by omega), if_pos (by simp; omega), hw5]
  | succ d ih =>
    intro i h0 h1' hd hins
    have hlt : i < (out.length : Int) := by omega
    have hwi : wrap64 (i + 1) = i + 1 := w64 (by omega) (by omega)
    have hy : inR (rd out i) = true := hall _ (by rw [rd_get h0 hlt]; exact List.getElem_mem _)
    have hyr := (inR_iff _).1 hy
    have hvy := rvar_f (x := rd out i) (by omega) (by omega)
    rw [drop_rd h0 hlt] at hins
    by_cases hc : ((rd out i).natAbs : Int) < ((rd x0 x5).natAbs : Int)
    · refine Ev.step (f := fun k => assessorref26_Normal.l1 k x0 out x5 (i + 1)) (fun k => ?_) (ih (i + 1) (by omega) (by omega) (by omega) ?_)
      · simp only [assessorref26_Normal.l1]
        rw [if_pos hlt, if_pos h0, hvy]
        simp only [Option.bind_some]
        rw [if_pos h5, if_pos h5', hvx]
        simp only [Option.bind_some]
        rw [if_pos hc, hwi]
      · rw [hins]
        simp only [ins]
        rw [if_pos (by omega), Option.map_map]
        congr 1
        funext r
        have : out.take (i + 1).toNat = out.take i.toNat ++ [rd out i] := by
          rw [show (i + 1).toNat = i.toNat + 1 by omega, List.take_add_one, List.getElem?_eq_getElem (by omega), rd_get h0 hlt]
          rfl
        simp [this]
    · simp only [ins] at hins
      rw [if_neg (by omega)] at hins
      refine Ev.step (f := fun k => assessorref26_Normal.j3 k x0 out x5 i) (fun k => ?_) ?_
      · simp only [assessorref26_Normal.l1]
        rw [if_pos hlt, if_pos h0, hvy]
        simp only [Option.bind_some]
        rw [if_pos h5, if_pos h5', hvx]
        simp only [Option.bind_some]
        rw [if_neg hc]
      refine Ev.step (f := fun k => assessorref26_Normal.j4 k x0 out x5 i (rd out i == -(rd x0 x5))) (fun k => by simp only [assessorref26_Normal.j3]; rw [if_pos hlt, if_pos h0, if_pos h5, if_pos h5', hwx]) ?_
      by_cases hneg : rd out i = -(rd x0 x5)
      · rw [if_neg (by omega), if_pos hneg] at hins
        rw [h2 (by rw [hins]; rfl)]
        exact Ev.step (f := fun _ => some ([], false)) (fun k => by simp only [assessorref26_Normal.j4]; rw [if_pos (by simpa using hneg)]) (Ev.now _)
      · by_cases heq : rd out i = rd x0 x5
        · rw [if_pos heq] at hins
          have hto : out.take i.toNat ++ rd out i :: out.drop (i + 1).toNat = out := by rw [← drop_rd h0 hlt, List.take_append_drop]
          simp only [Option.map_some, hto] at hins
          refine Ev.step (fun k => ?_) (h1 _ hins)
          simp only [assessorref26_Normal.j4]
          rw [if_neg (by simpa using hneg), if_pos hlt, if_pos h0, if_pos h5, if_pos h5', if_pos heq, hw5]
        · rw [if_neg heq, if_neg hneg] at hins
          simp only [Option.map_some] at hins
          refine Ev.step (fun k => ?_) (h1 _ hins)
          simp only [assessorref26_Normal.j4, Option.bind_some]
          rw [if_neg (by simpa using hneg), if_pos hlt, if_pos h0, if_pos h5, if_pos h5', if_neg heq, if_pos (by omega)]
          have hdl : (out.drop i.toNat) = rd out i :: out.drop (i + 1).toNat := drop_rd h0 hlt
          simp only [List.nil_append, List.length_nil, Nat.zero_add]
          rw [if_pos (by rw [List.length_take]; omega), if_pos (by rw [List.length_take]; omega), if_pos (by simp only [List.length_append, List.length_take, List.length_drop, List.length_singleton]; omega), hw5, hdl]
          simp
theorem ins_all (x : Int) (hx : inR x = true) : ∀ (l r : List Int), ins x l = some r → (∀ y ∈ l, inR y = true) → ∀ y ∈ r, inR y = true
  | [], r, h, _ => by simp [ins] at h; subst h; simpa using hx
  | z :: t, r, h, hl => by
    have hz := hl z List.mem_cons_self
    have ht := fun y hy => hl y (List.mem_cons_of_mem _ hy)
    unfold ins at h
    split at h
    · obtain ⟨q, hq, rfl⟩ := Option.map_eq_some_iff.1 h
      intro y hy
      rcases List.mem_cons.1 hy with rfl | hy
      · exact hz
      · exact ins_all x hx t q hq ht y hy
    · split at h
      · cases h; exact hl
      · split at h
        · cases h
        · cases h
          intro y hy
          rcases List.mem_cons.1 hy with rfl | hy
          · exact hx
          · exact hl y hy
theorem rnormal_l0 (x0 : List Int) (hl0 : x0.length ≤ 1000000) : ∀ (d : Nat) (x5 : Int) (out : List Int), 0 ≤ x5 → x5 ≤ x0.length → (x0.length : Int) - x5 = d → (out.length : Int) ≤ x5 → (∀ y ∈ out, inR y = true) → Ev (fun k => assessorref26_Normal.l0 k x0 out x5) (nrmR out (x0.drop x5.toNat)) := by
  intro d
  induction d with
  | zero =>
    intro x5 out h0 h1 hd ho hall
    rw [List.drop_eq_nil_of_le (by omega)]
    exact Ev.step (f := fun _ => some (out, true)) (fun k => by simp only [assessorref26_Normal.l0]; rw [if_neg (by omega)]) (Ev.now _)
  | succ d ih =>
    intro x5 out h0 h1 hd ho hall
    have hlt : x5 < (x0.length : Int) := by omega
    rw [drop_rd h0 hlt]
    simp only [nrmR]
    have bad : (∀ k, assessorref26_Normal.l0 (k + 1) x0 out x5 = assessorref26_Normal.j1 k x0 out x5 true) → inR (rd x0 x5) = false → Ev (fun k => assessorref26_Normal.l0 k x0 out x5) (if inR (rd x0 x5) = true then (match ins (rd x0 x5) out with | some r => nrmR r (x0.drop (x5 + 1).toNat) | none => ([], false)) else ([], false)) := fun h hb => by
      rw [if_neg (by rw [hb]; simp)]
      exact Ev.step (f := fun k => assessorref26_Normal.j1 k x0 out x5 true) h (Ev.step (f := fun _ => some ([], false)) (fun k => by simp only [assessorref26_Normal.j1]; rfl) (Ev.now _))
    by_cases hz : rd x0 x5 = 0
    · exact bad (fun k => by simp only [assessorref26_Normal.l0]; rw [if_pos hlt, if_pos h0, if_pos hz]) (by simp [inR, hz])
    by_cases hlo : rd x0 x5 < -1073741824
    · exact bad (fun k => by simp only [assessorref26_Normal.l0]; rw [if_pos hlt, if_pos h0, if_neg hz, if_pos hlo]) (by simp [inR]; omega)
    by_cases hhi : rd x0 x5 > 1073741824
    · exact bad (fun k => by simp only [assessorref26_Normal.l0]; rw [if_pos hlt, if_pos h0, if_neg hz, if_neg hlo, decide_eq_true hhi]) (by simp [inR]; omega)
    have hin : inR (rd x0 x5) = true := (inR_iff _).2 ⟨hz, by omega, by omega⟩
    rw [if_pos hin]
    refine Ev.step (f := fun k => assessorref26_Normal.j1 k x0 out x5 false) (fun k => by simp only [assessorref26_Normal.l0]; rw [if_pos hlt, if_pos h0, if_neg hz, if_neg hlo, decide_eq_false hhi]) ?_
    refine Ev.step (f := fun k => assessorref26_Normal.l1 k x0 out x5 0) (fun k => by simp only [assessorref26_Normal.j1]; rfl) ?_
    refine rnormal_l1 x0 out x5 h0 hlt hl0 (by omega) hin hall _ (fun r hr => ?_) (fun hn => by rw [hn]) out.length 0 (by omega) (by omega) (by omega) (by simp)
    rw [hr]
    exact ih (x5 + 1) r (by omega) (by omega) (by omega) (by have := ins_len _ _ _ hr; omega) (ins_all _ hin _ _ hr hall)
theorem rnormal_f (l : List Int) (hl : l.length ≤ 1000000) : Ev (fun k => assessorref26_Normal.f k l) (nrm l) := by
  rw [nrm_R]
  have h := rnormal_l0 l hl l.length 0 [] (by omega) (by omega) (by omega) (by simp) (by simp)
  exact h
theorem ris_ev (m : List Int) (hm : m.length ≤ 1000000) : ∀ (d : Nat) (x : Int), 0 ≤ x → x ≤ m.length → (m.length : Int) - x = d → Ev (fun k => assessorref26_IsModel.l0 k m x) (mOk x.toNat (m.drop x.toNat)) := by
  intro d
  induction d with
  | zero =>
    intro x h0 h1 hd
    rw [mOk_end (by omega)]
    exact Ev.step (f := fun _ => some true) (fun k => by simp only [assessorref26_IsModel.l0]; rw [if_neg (by omega)]) (Ev.now _)
  | succ d ih =>
    intro x h0 h1 hd
    have hlt : x < (m.length : Int) := by omega
    have hw : wrap64 (x + 1) = x + 1 := w64 (by omega) (by omega)
    have hw2 : wrap64 (-(x + 1)) = -(x + 1) := w64 (by omega) (by omega)
    rw [mOk_step h0 hlt rfl rfl]
    by_cases ha : rd m x = x + 1
    · rw [decide_eq_true (Or.inl ha), Bool.true_and]
      exact Ev.step (f := fun k => assessorref26_IsModel.l0 k m (x + 1)) (fun k => by simp only [assessorref26_IsModel.l0]; rw [if_pos hlt, if_pos h0, hw, if_pos ha]) (ih (x + 1) (by omega) (by omega) (by omega))
    · by_cases hb : rd m x = -(x + 1)
      · rw [decide_eq_true (Or.inr (by omega)), Bool.true_and]
        exact Ev.step (f := fun k => assessorref26_IsModel.l0 k m (x + 1)) (fun k => by simp only [assessorref26_IsModel.l0]; rw [if_pos hlt, if_pos h0, hw, if_neg ha, hw2, if_pos hb]) (ih (x + 1) (by omega) (by omega) (by omega))
      · rw [decide_eq_false (by omega), Bool.false_and]
        exact Ev.step (f := fun _ => some false) (fun k => by simp only [assessorref26_IsModel.l0]; rw [if_pos hlt, if_pos h0, hw, if_neg ha, hw2, if_neg hb]) (Ev.now _)
theorem rmodel_f (n : Int) (m : List Int) (hm : m.length ≤ 1000000) : Ev (fun k => assessorref26_IsModel.f k n m) (decide ((m.length : Int) = n) && mOk 0 m) := by
  by_cases h : (m.length : Int) = n
  · rw [decide_eq_true h, Bool.true_and]
    have h2 := ris_ev m hm m.length 0 (by omega) (by omega) (by omega)
    exact Ev.congr (fun k => by unfold assessorref26_IsModel.f; rw [if_pos h]) h2
  · rw [decide_eq_false h, Bool.false_and]
    exact Ev.congr (f := fun _ => some false) (fun k => by unfold assessorref26_IsModel.f; rw [if_neg h]) (Ev.now _)
theorem rholds_l1 (n : Int) (cl : List (List Int)) (m : List Int) (hm : (m.length : Int) = n) (hn : n ≤ 65536) (x5 : Int) (h5 : 0 ≤ x5) (h5' : x5 < (cl.length : Int)) (hc : clauseOk n (rd_L1 cl x5) = true) (R : Bool)
    (h1 : (rd_L1 cl x5).any (mAt m) = true → Ev (fun k => assessorref26_Holds.l0 k m (x5 + 1) n cl) R) (h2 : (rd_L1 cl x5).any (mAt m) = false → R = false) (hl : cl.length ≤ 4611686018427387904) :
    ∀ (d : Nat) (x : Int) (b : Bool), 0 ≤ x → x ≤ (rd_L1 cl x5).length → ((rd_L1 cl x5).length : Int) - x = d → ((b || ((rd_L1 cl x5).drop x.toNat).any (mAt m)) = (rd_L1 cl x5).any (mAt m)) → Ev (fun k => assessorref26_Holds.l1 k m x5 b x n cl) R := by
  have hw5 : wrap64 (x5 + 1) = x5 + 1 := w64 (by omega) (by omega)
  have hlen := clauseOk_length (by omega) hc
  have hck := ((clauseOk_iff n _).1 hc).2
  intro d
  induction d with
  | zero =>
    intro x b h0 hx1 hd hb
    rw [List.drop_eq_nil_of_le (by omega)] at hb
    simp only [List.any_nil, Bool.or_false] at hb
    cases b with
    | true => exact Ev.step (fun k => by simp only [assessorref26_Holds.l1]; rw [if_pos h5, if_pos h5', if_neg (by omega), if_pos trivial, hw5]) (h1 hb.symm)
    | false =>
      rw [h2 hb.symm]
      exact Ev.step (f := fun _ => some false) (fun k => by simp only [assessorref26_Holds.l1]; rw [if_pos h5, if_pos h5', if_neg (by omega), if_neg (by simp)]) (Ev.now _)
  | succ d ih =>
    intro x b h0 hx1 hd hb
    have hlt : x < ((rd_L1 cl x5).length : Int) := by omega
    have hw : wrap64 (x + 1) = x + 1 := w64 (by omega) (by omega)
    rw [drop_rd h0 hlt, List.any_cons] at hb
    have hr := hck (rd (rd_L1 cl x5) x) (by rw [rd_get h0 hlt]; exact List.getElem_mem _)
    cases b with
    | true =>
      exact Ev.step (fun k => by simp only [assessorref26_Holds.l1]; rw [if_pos h5, if_pos h5', if_pos hlt, if_pos h0, if_pos trivial, hw]) (ih (x + 1) true (by omega) (by omega) (by omega) (by rw [Bool.true_or] at hb ⊢; exact hb))
    | false =>
      have hv := rvar_f (x := rd (rd_L1 cl x5) x) (by omega) (by omega)
      have hw2 : wrap64 (((rd (rd_L1 cl x5) x).natAbs : Int) - 1) = ((rd (rd_L1 cl x5) x).natAbs : Int) - 1 := w64 (by omega) (by omega)
      refine Ev.step (f := fun k => assessorref26_Holds.l1 k m x5 (mAt m (rd (rd_L1 cl x5) x)) (x + 1) n cl) (fun k => ?_) (ih (x + 1) _ (by omega) (by omega) (by omega) (by rw [← hb, Bool.false_or]))
      simp only [assessorref26_Holds.l1]
      rw [if_pos h5, if_pos h5', if_pos hlt, if_pos h0, if_neg (by simp), hv]
      simp only [Option.bind_some]
      rw [hw2, if_pos (by omega), if_pos (by omega), hw]
      congr 1
theorem rholds_l0 (n : Int) (cl : List (List Int)) (m : List Int) (hm : (m.length : Int) = n) (hn : n ≤ 65536) (hcl : ∀ c ∈ cl, clauseOk n c = true) (hl : cl.length ≤ 4611686018427387904) :
    ∀ (d : Nat) (x : Int), 0 ≤ x → x ≤ cl.length → (cl.length : Int) - x = d → Ev (fun k => assessorref26_Holds.l0 k m x n cl) ((cl.drop x.toNat).all fun c => c.any (mAt m)) := by
  intro d
  induction d with
  | zero =>
    intro x h0 h1 hd
    rw [List.drop_eq_nil_of_le (by omega)]
    exact Ev.step (f := fun _ => some true) (fun k => by simp only [assessorref26_Holds.l0]; rw [if_neg (by omega)]) (Ev.now _)
  | succ d ih =>
    intro x h0 h1 hd
    have hlt : x < (cl.length : Int) := by omega
    rw [drop_rdL h0 hlt, List.all_cons]
    have hmem : rd_L1 cl x ∈ cl := by rw [rdL_get h0 hlt]; exact List.getElem_mem _
    refine Ev.step (f := fun k => assessorref26_Holds.l1 k m x false 0 n cl) (fun k => by simp only [assessorref26_Holds.l0]; rw [if_pos hlt]) ?_
    refine rholds_l1 n cl m hm hn x h0 hlt (hcl _ hmem) _ (fun ht => ?_) (fun hf => by rw [hf, Bool.false_and]) hl (rd_L1 cl x).length 0 false (by omega) (by omega) (by omega) (by simp)
    rw [ht, Bool.true_and]
    exact ih (x + 1) (by omega) (by omega) (by omega)
theorem rholds_f (n : Int) (cl : List (List Int)) (m : List Int) (hc : ∀ c ∈ cl, c.length ≤ 4611686018427387904) (hl : cl.length ≤ 4611686018427387904) (hm : m.length ≤ 1000000) : Ev (fun k => assessorref26_Holds.f k n cl m) (holdsC n cl m) := by
  have hv := rvalid_f n cl hc hl
  refine Ev.congr (fun k => by unfold assessorref26_Holds.f; rfl) (Ev.bind hv ?_)
  unfold holdsC
  by_cases hvc : validC n cl = true
  · simp only [hvc, if_true, Bool.true_and]
    obtain ⟨⟨h0n, hn, _⟩, hcl⟩ := (validC_iff n cl).1 hvc
    refine Ev.bind (rmodel_f n m hm) ?_
    rw [← Bool.and_assoc]
    cases hb : (decide ((m.length : Int) = n) && mOk 0 m) with
    | false => exact Ev.step (f := fun _ => some false) (fun k => by simp only [assessorref26_Holds.j0]; rfl) (by rw [Bool.false_and]; exact Ev.now _)
    | true =>
      rw [Bool.true_and]
      have hmn : (m.length : Int) = n := of_decide_eq_true ((Bool.and_eq_true _ _).mp hb).1
      refine Ev.step (f := fun k => assessorref26_Holds.l0 k m 0 n cl) (fun k => by simp only [assessorref26_Holds.j0]; rfl) ?_
      exact rholds_l0 n cl m hmn hn hcl hl cl.length 0 (by omega) (by omega) (by omega)
  · simp only [hvc, Bool.false_and, Bool.false_eq_true, if_false]
    exact Ev.step (f := fun _ => some false) (fun k => by simp only [assessorref26_Holds.j0]; rfl) (Ev.now _)
theorem rlit_f (x : Int) : assessorref26_Literal.f x = some (litC x) := litC_f x
end Go.Proofs.YteaohgebocbehaaGreatDoor.Plain
end
section
/- The reference's Translate answers as cnf.Translate. Condition: at most 2^20 gates and literals. -/
set_option linter.unusedVariables false
set_option linter.unusedSimpArgs false
namespace Go.Proofs.YteaohgebocbehaaGreatDoor.Plain
open Go.RowKit Go.Proofs.YteaohgebocbehaaGreatDoor.XA Go.Proofs.YteaohgebocbehaaGreatDoorW.PrintWords
theorem nat_xor_one (m : Nat) : m ^^^ 1 = if m % 2 = 0 then m + 1 else m - 1 := by
  have h1 : (m ^^^ 1) / 2 = m / 2 := by rw [Nat.xor_div_two]; simp
  have h2 : (m ^^^ 1) % 2 = (m + 1) % 2 := by
    have h := Nat.xor_mod_two_pow (a := m) (b := 1) (n := 1)
    simp only [Nat.pow_one] at h
    rw [h]
    rcases Nat.mod_two_eq_zero_or_one m with e | e <;> (rw [e]; simp; omega)
  split <;> omega
theorem notI_eq {a : Int} (h0 : 0 ≤ a) (h1 : a ≤ 4611686018427387904) : notI a = if a % 2 = 0 then a + 1 else a - 1 := by
  obtain ⟨m, rfl⟩ : ∃ m : Nat, a = m := ⟨a.toNat, by omega⟩
  unfold notI
  show IntKind.i64.wrap ((BitVec.ofInt 64 (m : Int) ^^^ BitVec.ofInt 64 1).toNat : Int) = _
  have e1 : (BitVec.ofInt 64 (m : Int)).toNat = m := by
    rw [BitVec.toNat_ofInt]
    omega
  have e2 : (BitVec.ofInt 64 1).toNat = 1 := by decide
  rw [BitVec.toNat_xor, e1, e2, nat_xor_one]
  have hw : ∀ y : Int, 0 ≤ y → y ≤ 9223372036854775807 → IntKind.i64.wrap y = y := fun y h1 h2 => IntWalk.i64_in _ (by omega)
  by_cases h : m % 2 = 0
  · rw [if_pos h, if_pos (by omega), hw _ (by omega) (by omega)]
    omega
  · rw [if_neg h, if_neg (by omega), hw _ (by omega) (by omega)]
    omega
theorem rnot_f {a : Int} (h0 : 0 ≤ a) (h1 : a ≤ 4611686018427387904) : assessorref24_Not.f a = some (notI a) := by
  rw [notI_eq h0 h1]
  unfold assessorref24_Not.f
  have h : Int.tmod a 2 = a % 2 := by rw [Int.tmod_eq_emod_of_nonneg h0]
  rw [h, w64 (by omega) (by omega), w64 (by omega) (by omega)]
  split <;> rfl
theorem rnodes_f {inp : Int} {gs : List S62} (h0 : -1000000 ≤ inp) (h1 : inp ≤ 1000000) (hl : gs.length ≤ 1000000) : assessorref24_Nodes.f inp gs = some (1 + inp + gs.length) := by
  unfold assessorref24_Nodes.f
  rw [w64 (x := 1 + inp) (by omega) (by omega), w64 (by omega) (by omega)]
theorem r24_l1 (inp : Int) (gs : List S62) (hl : gs.length ≤ 1000000) (x3 : Int) (h3 : 0 ≤ x3) (h3' : x3 < (gs.length : Int)) (R : Bool)
    (h1 : pr (rd_T62 gs x3) ∉ seenTo gs x3 → Ev (fun k => assessorref24_Valid.l0 k (x3 + 1) inp gs) R) (h2 : pr (rd_T62 gs x3) ∈ seenTo gs x3 → R = false) :
    ∀ (d : Nat) (x : Int), 0 ≤ x → x ≤ x3 → x3 - x = d → pr (rd_T62 gs x3) ∉ seenTo gs x → Ev (fun k => assessorref24_Valid.l1 k x3 x inp gs) R := by
  have hw3 : wrap64 (x3 + 1) = x3 + 1 := w64 (by omega) (by omega)
  intro d
  induction d with
  | zero =>
    intro x h0 hx hd hs
    have e : x = x3 := by omega
    subst e
    exact Ev.step (fun k => by simp only [assessorref24_Valid.l1]; rw [if_neg (by omega), hw3]) (h1 hs)
  | succ d ih =>
    intro x h0 hx hd hs
    have hlt : x < x3 := by omega
    have hw : wrap64 (x + 1) = x + 1 := w64 (by omega) (by omega)
    have hmono : ∀ q, q ∈ seenTo gs (x + 1) → q ∈ seenTo gs x3 := fun q hq => by
      unfold seenTo at hq ⊢
      rw [List.mem_map] at hq ⊢
      obtain ⟨a, ha, e⟩ := hq
      exact ⟨a, (List.take_sublist_take_left (by omega)).subset ha, e⟩
    by_cases hc : pr (rd_T62 gs x) = pr (rd_T62 gs x3)
    · have hcb : ((rd_T62 gs x).f0 == (rd_T62 gs x3).f0 && ((rd_T62 gs x).f1 == (rd_T62 gs x3).f1)) = true := by
        simp only [pr, Prod.mk.injEq] at hc
        simp [hc.1, hc.2]
      rw [h2 (hmono _ (by rw [seen_step h0 (by omega)]; simp [hc]))]
      exact Ev.step (f := fun _ => some false) (fun k => by simp only [assessorref24_Valid.l1]; rw [if_pos hlt, if_pos h0, if_pos (by omega), if_pos h3, if_pos h3', if_pos hcb]) (Ev.now _)
    · have hcb : ¬ ((rd_T62 gs x).f0 == (rd_T62 gs x3).f0 && ((rd_T62 gs x).f1 == (rd_T62 gs x3).f1)) = true := by
        intro h
        simp only [Bool.and_eq_true, beq_iff_eq] at h
        exact hc (by simp [pr, h.1, h.2])
      refine Ev.step (f := fun k => assessorref24_Valid.l1 k x3 (x + 1) inp gs) (fun k => by simp only [assessorref24_Valid.l1]; rw [if_pos hlt, if_pos h0, if_pos (by omega), if_pos h3, if_pos h3', if_neg hcb, hw]) (ih (x + 1) (by omega) (by omega) (by omega) ?_)
      rw [seen_step h0 (by omega)]
      simp only [List.mem_append, List.mem_singleton, not_or]
      exact ⟨hs, fun e => hc e.symm⟩
theorem r24_l0 (inp : Int) (h0i : 0 ≤ inp) (h1i : inp ≤ 1024) (gs : List S62) (hl : gs.length ≤ 1000000) :
    ∀ (d : Nat) (x : Int), 0 ≤ x → x ≤ gs.length → (gs.length : Int) - x = d → Ev (fun k => assessorref24_Valid.l0 k x inp gs) (gOk (1 + inp + x) (seenTo gs x) (gs.drop x.toNat)) := by
  intro d
  induction d with
  | zero =>
    intro x h0 h1 hd
    rw [gOk_end (by omega)]
    exact Ev.step (f := fun _ => some true) (fun k => by simp only [assessorref24_Valid.l0]; rw [if_neg (by omega)]) (Ev.now _)
  | succ d ih =>
    intro x h0 h1 hd
    have hlt : x < (gs.length : Int) := by omega
    rw [gOk_step h0 hlt]
    obtain ⟨a, ha⟩ : ∃ a, a = (rd_T62 gs x).f0 := ⟨_, rfl⟩
    obtain ⟨b, hb⟩ : ∃ b, b = (rd_T62 gs x).f1 := ⟨_, rfl⟩
    have hw1 : wrap64 (2 * wrap64 (wrap64 (1 + inp) + x)) = 2 * (1 + inp + x) := by
      rw [w64 (x := 1 + inp) (by omega) (by omega), w64 (x := 1 + inp + x) (by omega) (by omega), w64 (by omega) (by omega)]
    rw [← ha, ← hb]
    have bad : ∀ r : Bool, r = false → (∀ k, assessorref24_Valid.l0 (k + 1) x inp gs = assessorref24_Valid.j2 k x true inp gs) → Ev (fun k => assessorref24_Valid.l0 k x inp gs) r := fun r hr h => by
      rw [hr]
      exact Ev.step h (Ev.step (f := fun _ => some false) (fun k => by simp only [assessorref24_Valid.j2]; rfl) (Ev.now _))
    by_cases c1 : a < 2
    · exact bad _ (by rw [decide_eq_false (show ¬ 2 ≤ a by omega), Bool.false_and]) (fun k => by simp only [assessorref24_Valid.l0, ← ha, ← hb]; rw [if_pos hlt, if_pos h0, if_pos c1])
    rw [decide_eq_true (show 2 ≤ a by omega), Bool.true_and]
    by_cases c2 : b ≤ a
    · exact bad _ (by rw [decide_eq_false (show ¬ a < b by omega), Bool.false_and]) (fun k => by simp only [assessorref24_Valid.l0, ← ha, ← hb]; rw [if_pos hlt, if_pos h0, if_neg c1, if_pos c2])
    rw [decide_eq_true (show a < b by omega), Bool.true_and]
    by_cases c3 : b ≥ 2 * (1 + inp + x)
    · exact bad _ (by rw [decide_eq_false (show ¬ b < 2 * (1 + inp + x) by omega), Bool.false_and]) (fun k => by simp only [assessorref24_Valid.l0, ← ha, ← hb]; rw [if_pos hlt, if_pos h0, if_neg c1, if_neg c2, if_pos (by rw [hw1]; exact c3)])
    rw [decide_eq_true (show b < 2 * (1 + inp + x) by omega), Bool.true_and]
    have hn := rnot_f (a := a) (by omega) (by omega)
    have hgo : ∀ k, assessorref24_Valid.l0 (k + 1) x inp gs = assessorref24_Valid.j2 k x (notI a == b) inp gs := fun k => by
      simp only [assessorref24_Valid.l0, ← ha, ← hb]
      rw [if_pos hlt, if_pos h0, if_neg c1, if_neg c2, if_neg (by rw [hw1]; exact c3), hn]
      simp only [Option.bind_some]
    by_cases c4 : b = notI a
    · exact bad _ (by rw [decide_eq_true c4]; rfl) (fun k => by rw [hgo k]; congr 1; simp [c4])
    rw [decide_eq_false c4, Bool.not_false, Bool.true_and]
    refine Ev.step (f := fun k => assessorref24_Valid.j2 k x false inp gs) (fun k => by rw [hgo k]; congr 1; simp; exact fun h => c4 h.symm) ?_
    refine Ev.step (f := fun k => assessorref24_Valid.l1 k x 0 inp gs) (fun k => by simp only [assessorref24_Valid.j2]; rfl) ?_
    have hpr : pr (rd_T62 gs x) = (a, b) := by rw [ha, hb]; rfl
    refine r24_l1 inp gs hl x h0 hlt _ (fun hs => ?_) (fun hs => ?_) x.toNat 0 (by omega) (by omega) (by omega) (by simp [seenTo])
    · rw [hpr] at hs
      rw [decide_eq_false hs, Bool.not_false, Bool.true_and]
      exact ih (x + 1) (by omega) (by omega) (by omega)
    · rw [hpr] at hs
      rw [decide_eq_true hs]
      rfl
theorem r24_f (inp : Int) (gs : List S62) (hl : gs.length ≤ 1000000) : Ev (fun k => assessorref24_Valid.f k inp gs) (gValid inp gs) := by
  have bad : ∀ r : Bool, r = false → (∀ k, assessorref24_Valid.f k inp gs = assessorref24_Valid.j0 k true inp gs) → Ev (fun k => assessorref24_Valid.f k inp gs) r := fun r hr h => by
    rw [hr]
    exact Ev.congr h (Ev.step (f := fun _ => some false) (fun k => by simp only [assessorref24_Valid.j0]; rfl) (Ev.now _))
  unfold gValid
  by_cases c1 : inp < 0
  · exact bad _ (by rw [decide_eq_false (show ¬ 0 ≤ inp by omega), Bool.false_and]) (fun k => by unfold assessorref24_Valid.f; rw [if_pos c1])
  rw [decide_eq_true (show 0 ≤ inp by omega), Bool.true_and]
  by_cases c2 : inp > 1024
  · exact bad _ (by rw [decide_eq_false (show ¬ inp ≤ 1024 by omega), Bool.false_and]) (fun k => by unfold assessorref24_Valid.f; rw [if_neg c1, if_pos c2])
  rw [decide_eq_true (show inp ≤ 1024 by omega), Bool.true_and]
  have hnd := rnodes_f (inp := inp) (gs := gs) (by omega) (by omega) hl
  by_cases c3 : (gs.length : Int) > 65536
  · exact bad _ (by rw [decide_eq_false (show ¬ 1 + inp + (gs.length : Int) ≤ 65536 by omega), Bool.false_and]) (fun k => by unfold assessorref24_Valid.f; rw [if_neg c1, if_neg c2, if_pos c3])
  by_cases c4 : 1 + inp + (gs.length : Int) > 65536
  · exact bad _ (by rw [decide_eq_false (show ¬ 1 + inp + (gs.length : Int) ≤ 65536 by omega), Bool.false_and]) (fun k => by unfold assessorref24_Valid.f; rw [if_neg c1, if_neg c2, if_neg c3, hnd]; simp only [Option.bind_some]; rw [decide_eq_true c4])
  rw [decide_eq_true (show 1 + inp + (gs.length : Int) ≤ 65536 by omega), Bool.true_and]
  refine Ev.congr (f := fun k => assessorref24_Valid.j0 k false inp gs) (fun k => by unfold assessorref24_Valid.f; rw [if_neg c1, if_neg c2, if_neg c3, hnd]; simp only [Option.bind_some]; rw [decide_eq_false c4]) ?_
  refine Ev.step (f := fun k => assessorref24_Valid.l0 k 0 inp gs) (fun k => by simp only [assessorref24_Valid.j0]; rfl) ?_
  have h := r24_l0 inp (by omega) (by omega) gs hl gs.length 0 (by omega) (by omega) (by omega)
  simpa [seenTo] using h
theorem ris_lit {inp : Int} {gs : List S62} (h0 : 0 ≤ inp) (h1 : inp ≤ 1024) (hl : gs.length ≤ 1000000) (x : Int) : assessorref24_IsLiteral.f inp gs x = some (decide (0 ≤ x ∧ x < 2 * (1 + inp + gs.length))) := by
  unfold assessorref24_IsLiteral.f
  by_cases h : x ≥ 0
  · rw [if_pos h, rnodes_f (by omega) (by omega) hl]
    simp only [Option.bind_some]
    rw [w64 (by omega) (by omega)]
    congr 1
    exact decide_eq_decide.2 (by omega)
  · rw [if_neg h]
    congr 1
    exact (decide_eq_false (by omega)).symm
theorem addC_one {x n : Int} (h1 : 1 ≤ x.natAbs) (h2 : (x.natAbs : Int) ≤ n) (hn : n ≤ 1048576) : addC [x] = [x] := by
  have hin : inR x = true := (inR_iff x).2 (by omega)
  unfold addC
  rw [nrm_R]
  simp [nrmR, hin, ins]
theorem rtr_l2 (n : Int) (hn : n ≤ 1048576) (l : List Int) (hl : l.length ≤ 1000000) (hlits : ∀ x ∈ l, 0 ≤ x ∧ x < 2 * n) (nn : Int) : ∀ (d : Nat) (x : Int) (acc : List (List Int)), 0 ≤ x → x ≤ l.length → (l.length : Int) - x = d → acc.length ≤ 10000000 + x.toNat → Ev (fun k => assessorref26_Translate.l2 k l x nn acc) (nn, acc ++ (l.drop x.toNat).map (fun y => addC [litC y]), (0 : Int)) := by
  intro d
  induction d with
  | zero =>
    intro x acc h0 h1 hd ha
    rw [List.drop_eq_nil_of_le (by omega)]
    simp only [List.map_nil, List.append_nil]
    exact Ev.step (f := fun _ => some (nn, acc, 0)) (fun k => by simp only [assessorref26_Translate.l2]; rw [if_neg (by omega)]) (Ev.now _)
  | succ d ih =>
    intro x acc h0 h1 hd ha
    have hlt : x < (l.length : Int) := by omega
    have hw : wrap64 (x + 1) = x + 1 := w64 (by omega) (by omega)
    have hm := hlits (rd l x) (by rw [rd_get h0 hlt]; exact List.getElem_mem _)
    have hr := litC_range hm.1 hm.2 hn
    rw [drop_rd h0 hlt, List.map_cons, addC_one hr.1 hr.2 hn]
    have h := ih (x + 1) (acc ++ [[litC (rd l x)]]) (by omega) (by omega) (by omega) (by simp; omega)
    rw [List.append_assoc] at h
    refine Ev.step (fun k => ?_) h
    simp only [assessorref26_Translate.l2]
    rw [if_pos hlt, if_pos h0, rlit_f]
    simp only [Option.bind_some]
    rw [if_pos (by omega), hw]
theorem rtr_l1 (inp : Int) (h0i : 0 ≤ inp) (h1i : inp ≤ 1024) (gs : List S62) (hg : gs.length ≤ 1000000) (hv : ∀ x : Int, 0 ≤ x → x < (gs.length : Int) → 2 ≤ (rd_T62 gs x).f0 ∧ (rd_T62 gs x).f0 < (rd_T62 gs x).f1 ∧ (rd_T62 gs x).f1 < 2 * (1 + inp + x)) (l : List Int) (nn : Int) (R : Int × List (List Int) × Int) (hR : Ev (fun k => assessorref26_Translate.l2 k l 0 nn ([[-1]] ++ trGates (inp + 2) gs)) R) :
    ∀ (d : Nat) (x : Int) (acc : List (List Int)), 0 ≤ x → x ≤ gs.length → (gs.length : Int) - x = d → acc = [[-1]] ++ trGates (inp + 2) (gs.take x.toNat) → Ev (fun k => assessorref26_Translate.l1 k l x inp gs nn acc) R := by
  intro d
  induction d with
  | zero =>
    intro x acc h0 h1 hd ha
    rw [List.take_of_length_le (by omega)] at ha
    subst ha
    exact Ev.step (fun k => by simp only [assessorref26_Translate.l1]; rw [if_neg (by omega)]) hR
  | succ d ih =>
    intro x acc h0 h1 hd ha
    have hlt : x < (gs.length : Int) := by omega
    have hw : wrap64 (x + 1) = x + 1 := w64 (by omega) (by omega)
    have hvx := hv x h0 hlt
    have hp := litC_range (x := (rd_T62 gs x).f0) (n := 1 + inp + x) (by omega) (by omega) (by omega)
    have hq := litC_range (x := (rd_T62 gs x).f1) (n := 1 + inp + x) (by omega) (by omega) (by omega)
    have e1 : wrap64 (wrap64 (wrap64 (1 + inp) + x) + 1) = inp + 2 + x := by
      rw [w64 (x := 1 + inp) (by omega) (by omega), w64 (x := 1 + inp + x) (by omega) (by omega), w64 (by omega) (by omega)]; omega
    have e2 : wrap64 (-(inp + 2 + x)) = -(inp + 2 + x) := w64 (by omega) (by omega)
    have e3 : wrap64 (-(litC (rd_T62 gs x).f0)) = -(litC (rd_T62 gs x).f0) := w64 (by omega) (by omega)
    have e4 : wrap64 (-(litC (rd_T62 gs x).f1)) = -(litC (rd_T62 gs x).f1) := w64 (by omega) (by omega)
    have hlen : acc.length ≤ 1 + 3 * x.toNat := by rw [ha]; simp [trGates_length]; omega
    have htg : trGates (inp + 2) (gs.take (x + 1).toNat) = trGates (inp + 2) (gs.take x.toNat) ++ [addC [-(inp + 2 + x), litC (rd_T62 gs x).f0], addC [-(inp + 2 + x), litC (rd_T62 gs x).f1], addC [inp + 2 + x, -litC (rd_T62 gs x).f0, -litC (rd_T62 gs x).f1]] := by
      rw [take62 h0 hlt, trGates_snoc]
      have : ((gs.take x.toNat).length : Int) = x := by rw [List.length_take]; omega
      rw [this]
    have h := ih (x + 1) (acc ++ [addC [-(inp + 2 + x), litC (rd_T62 gs x).f0], addC [-(inp + 2 + x), litC (rd_T62 gs x).f1], addC [inp + 2 + x, -litC (rd_T62 gs x).f0, -litC (rd_T62 gs x).f1]]) (by omega) (by omega) (by omega) (by rw [htg, ha]; simp)
    have n1 := rnormal_f [-(inp + 2 + x), litC (rd_T62 gs x).f0] (by simp)
    have n2 := rnormal_f [-(inp + 2 + x), litC (rd_T62 gs x).f1] (by simp)
    have n3 := rnormal_f [inp + 2 + x, -litC (rd_T62 gs x).f0, -litC (rd_T62 gs x).f1] (by simp)
    refine Ev.step (f := fun k => (assessorref26_Normal.f k [-(inp + 2 + x), litC (rd_T62 gs x).f0]).bind fun b1 => (assessorref26_Normal.f k [-(inp + 2 + x), litC (rd_T62 gs x).f1]).bind fun b2 => (assessorref26_Normal.f k [inp + 2 + x, -litC (rd_T62 gs x).f0, -litC (rd_T62 gs x).f1]).bind fun b3 => if acc.length + ([b1.1, b2.1, b3.1] : List (List Int)).length < 5864062014805 then assessorref26_Translate.l1 k l (x + 1) inp gs nn (acc ++ [b1.1, b2.1, b3.1]) else none) (fun k => ?_) ?_
    · simp only [assessorref26_Translate.l1]
      rw [if_pos hlt, if_pos h0, rlit_f]
      simp only [Option.bind_some]
      rw [rlit_f]
      simp only [Option.bind_some, e1, e2, e3, e4, hw]
    · refine Ev.bind n1 (Ev.bind n2 (Ev.bind n3 ?_))
      refine Ev.congr (fun k => ?_) h
      rw [if_pos (by simp only [List.length_cons, List.length_nil]; omega)]
      rfl
theorem rtr_l0 (inp : Int) (h0i : 0 ≤ inp) (h1i : inp ≤ 1024) (gs : List S62) (hg : gs.length ≤ 1000000) (l : List Int) (hl : l.length ≤ 1000000) (R : Int × List (List Int) × Int)
    (h1 : litsOk (1 + inp + gs.length) l = true → 262144 < 1 + 3 * (gs.length : Int) + l.length → R = (0, [], 8)) (h2 : litsOk (1 + inp + gs.length) l = true → ¬ 262144 < 1 + 3 * (gs.length : Int) + l.length → Ev (fun k => assessorref26_Translate.l1 k l 0 inp gs (1 + inp + gs.length) [[-1]]) R) (h3 : litsOk (1 + inp + gs.length) l = false → R = (0, [], 1)) :
    ∀ (d : Nat) (x : Int), 0 ≤ x → x ≤ l.length → (l.length : Int) - x = d → litsOk (1 + inp + gs.length) (l.take x.toNat) = true → Ev (fun k => assessorref26_Translate.l0 k l x inp gs) R := by
  intro d
  induction d with
  | zero =>
    intro x h0 hx hd hok
    rw [List.take_of_length_le (by omega)] at hok
    have e : wrap64 (wrap64 (1 + wrap64 (3 * (gs.length : Int))) + (l.length : Int)) = 1 + 3 * (gs.length : Int) + l.length := by
      rw [w64 (x := 3 * (gs.length : Int)) (by omega) (by omega), w64 (x := 1 + 3 * (gs.length : Int)) (by omega) (by omega), w64 (by omega) (by omega)]
    by_cases hc : 262144 < 1 + 3 * (gs.length : Int) + l.length
    · rw [h1 hok hc]
      exact Ev.step (f := fun _ => some (0, [], 8)) (fun k => by simp only [assessorref26_Translate.l0]; rw [if_neg (by omega), e, if_pos hc]) (Ev.now _)
    · refine Ev.step (fun k => ?_) (h2 hok hc)
      simp only [assessorref26_Translate.l0]
      rw [if_neg (by omega), e, if_neg hc, rnodes_f (by omega) (by omega) hg]
      simp only [Option.bind_some]
  | succ d ih =>
    intro x h0 hx hd hok
    have hlt : x < (l.length : Int) := by omega
    have hw : wrap64 (x + 1) = x + 1 := w64 (by omega) (by omega)
    have hlit := ris_lit h0i h1i hg (rd l x)
    have htk : litsOk (1 + inp + gs.length) (l.take (x + 1).toNat) = (litsOk (1 + inp + gs.length) (l.take x.toNat) && decide (0 ≤ rd l x ∧ rd l x < 2 * (1 + inp + gs.length))) := by
      unfold litsOk
      rw [show (x + 1).toNat = x.toNat + 1 by omega, List.take_add_one, List.getElem?_eq_getElem (by omega), rd_get h0 hlt, List.all_append]
      simp only [Option.toList, List.all_cons, List.all_nil, Bool.and_true]
    by_cases hb : 0 ≤ rd l x ∧ rd l x < 2 * (1 + inp + gs.length)
    · refine Ev.step (f := fun k => assessorref26_Translate.l0 k l (x + 1) inp gs) (fun k => ?_) (ih (x + 1) (by omega) (by omega) (by omega) (by rw [htk, hok, decide_eq_true hb]; rfl))
      simp only [assessorref26_Translate.l0]
      rw [if_pos hlt, if_pos h0, hlit]
      simp only [Option.bind_some]
      rw [decide_eq_true hb, if_pos rfl, hw]
    · have hno : litsOk (1 + inp + gs.length) l = false := by
        unfold litsOk
        rw [List.all_eq_false]
        exact ⟨rd l x, by rw [rd_get h0 hlt]; exact List.getElem_mem _, by rw [decide_eq_false hb]; simp⟩
      rw [h3 hno]
      refine Ev.step (f := fun _ => some (0, [], 1)) (fun k => ?_) (Ev.now _)
      simp only [assessorref26_Translate.l0]
      rw [if_pos hlt, if_pos h0, hlit]
      simp only [Option.bind_some]
      rw [decide_eq_false hb, if_neg (by simp)]
theorem rtr_f (inp : Int) (gs : List S62) (hg : gs.length ≤ 1000000) (l : List Int) (hl : l.length ≤ 1000000) : Ev (fun k => assessorref26_Translate.f k inp gs l) (transC inp gs l) := by
  refine Ev.congr (fun k => by unfold assessorref26_Translate.f; rfl) (Ev.bind (r24_f inp gs hg) ?_)
  unfold transC
  cases hv : gValid inp gs with
  | false => simpa using Ev.now ((0 : Int), ([] : List (List Int)), (1 : Int))
  | true =>
    simp only [Bool.true_eq_false, if_false, if_true]
    obtain ⟨h0i, h1i, h2i⟩ := gValid_iff inp gs hv
    refine rtr_l0 inp h0i h1i gs hg l hl _ (fun ho hc => ?_) (fun ho hc => ?_) (fun ho => ?_) l.length 0 (by omega) (by omega) (by omega) (by simp [litsOk])
    · rw [ho, if_neg (by simp), if_pos hc]
    · rw [ho, if_neg (by simp), if_neg hc]
      refine rtr_l1 inp h0i h1i gs hg (fun x h0 h1 => gValid_get hv h0 h1) l _ _ ?_ gs.length 0 _ (by omega) (by omega) (by omega) (by simp [trGates])
      have h := rtr_l2 (1 + inp + gs.length) (by omega) l hl (fun x hx => by
        have := List.all_eq_true.1 ho x hx
        exact of_decide_eq_true this) (1 + inp + gs.length) l.length 0 ([[-1]] ++ trGates (inp + 2) gs) (by omega) (by omega) (by omega) (by simp [trGates_length]; omega)
      have e : trF inp gs l = [[-1]] ++ trGates (inp + 2) gs ++ (l.drop (0 : Int).toNat).map fun y => addC [litC y] := by simp [trF]
      rw [e]
      exact h
    · rw [ho, if_pos rfl]
end Go.Proofs.YteaohgebocbehaaGreatDoor.Plain
end
section
/- CnfTranslates: the walk: true at every circuit and list of literals, given what the library's variables hold. -/
set_option linter.unusedVariables false
set_option linter.unusedSimpArgs false
namespace Go.Proofs.YteaohgebocbehaaGreatDoor.Hand
open Go.RowKit Go.Lib Go.Shelf Go.Proofs.YteaohgebocbehaaGreatDoorW Go.Proofs.YteaohgebocbehaaGreatDoorW.PrintWords Go.Proofs.YteaohgebocbehaaGreatDoorW.PrintLast Go.Proofs.YteaohgebocbehaaGreatDoorW.PrintMore Go.Proofs.YteaohgebocbehaaGreatDoor.Plain Go.Proofs.YteaohgebocbehaaGreatDoor.XA
attribute [local go_sem] max2_int min2_int max_two min_two max_three min_three max_four min_four
theorem tr2_calls (inp : Int) (A : Option Addr) (c : Nat) (gs : List S62) (Al : Option Addr) (cl : Nat) (l : List Int) (w : World) (hr : k62.C w A gs.length gs) (hc : gs.length ≤ c) (hf : gs.length ≤ 1000000) (hrl : kI.C w Al l.length l) (hll : l.length ≤ 1000000) (r : Int × List (List Int) × Int) (hres : r = transC inp gs l) :
    Calls Tryz.prog 21 #[.agg #[.int .i64 inp, .slice A gs.length c], .slice Al l.length cl] w fun e w' => ∃ A' c', e = .returned (.tuple #[.agg #[.int .i64 r.1, .slice A' r.2.1.length c'], .int .i64 r.2.2]) ∧ r.2.1.length ≤ c' ∧ kL.C w' A' r.2.1.length r.2.1 ∧ Below w.heap.size w w' := by
  subst hres
  refine (Trans_calls inp A c gs Al cl l w hr hc (by omega) hrl (by omega)).mono ?_
  rintro e w' ⟨v, rfl, hN, hb⟩
  obtain ⟨A', c', rfl⟩ := Kd.N_slice hN
  exact ⟨A', c', rfl, (Kd.N_reads' hN).2.1, (Kd.N_reads' hN).2.2, hb⟩
theorem rtr_calls (inp : Int) (A : Option Addr) (c : Nat) (gs : List S62) (Al : Option Addr) (cl : Nat) (l : List Int) (w : World) (hr : k62.C w A gs.length gs) (hc : gs.length ≤ c) (hf : gs.length ≤ 1000000) (hrl : kI.C w Al l.length l) (hcl : l.length ≤ cl) (hll : l.length ≤ 1000000) (r : Int × List (List Int) × Int) (hres : r = transC inp gs l) :
    Calls Tryz.prog 22 #[.agg #[.int .i64 inp, .slice A gs.length c], .slice Al l.length cl] w fun e w' => ∃ A' c', e = .returned (.tuple #[.agg #[.int .i64 r.1, .slice A' r.2.1.length c'], .int .i64 r.2.2]) ∧ r.2.1.length ≤ c' ∧ kL.C w' A' r.2.1.length r.2.1 ∧ Below w.heap.size w w' := by
  obtain ⟨k, h⟩ := (rtr_f inp gs hf l hll).rounds
  rw [← hres] at h
  obtain ⟨r1, r2, r3⟩ := r
  refine (assessorref26_Translate.calls k inp A c gs Al cl l r1 r2 r3 w hr hc hrl hcl h).mono ?_
  rintro e w' ⟨v, rfl, hN, hb⟩
  obtain ⟨A', c', rfl⟩ := Kd.N_slice hN
  exact ⟨A', c', rfl, (Kd.N_reads' hN).2.1, (Kd.N_reads' hN).2.2, hb⟩
theorem trF_fine {inp : Int} {gs : List S62} {l : List Int} (hf : gs.length ≤ 1000) (hll : l.length ≤ 1000) (h : ∀ c ∈ (transC inp gs l).2.1, c.length ≤ 17592186044416) : Fine (transC inp gs l).2.1 := by
  refine ⟨?_, h⟩
  unfold transC
  split
  · simp
  · split
    · simp
    · split
      · simp
      · simp [trF, trGates_length]; omega
theorem addC_len (l : List Int) (hl : l.length ≤ 1000) : (addC l).length ≤ 17592186044416 := by
  unfold addC
  rw [nrm_R]
  have key : ∀ (l out : List Int), (nrmR out l).1.length ≤ out.length + l.length := by
    intro l
    induction l with
    | nil => intro out; simp [nrmR]
    | cons x t ih =>
      intro out
      simp only [nrmR]
      split
      · split
        · rename_i r hr
          have h1 := ins_len _ _ _ hr
          have h2 := ih r
          simp only [List.length_cons]
          omega
        · simp
      · simp
  have := key l []
  simp only [List.length_nil] at this
  omega
theorem trGates_len : ∀ (gs : List S62) (v : Int), ∀ c ∈ trGates v gs, c.length ≤ 17592186044416
  | [], v, c, hc => by cases hc
  | x :: t, v, c, hc => by
    simp only [trGates, List.cons_append, List.nil_append, List.mem_cons] at hc
    rcases hc with rfl | rfl | rfl | hc
    · exact addC_len _ (by simp)
    · exact addC_len _ (by simp)
    · exact addC_len _ (by simp)
    · exact trGates_len t _ c hc
theorem transC_fine (inp : Int) (gs : List S62) (l : List Int) (hf : gs.length ≤ 1000) (hll : l.length ≤ 1000) : Fine (transC inp gs l).2.1 := by
  refine trF_fine hf hll fun c hc => ?_
  unfold transC at hc
  split at hc
  · cases hc
  · split at hc
    · cases hc
    · split at hc
      · cases hc
      · simp only [trF, List.mem_append, List.mem_singleton, List.mem_map] at hc
        rcases hc with (rfl | hc) | ⟨x, _, rfl⟩
        · simp
        · exact trGates_len _ _ c hc
        · exact addC_len _ (by simp)
/-- The circuit's box, the world since w. -/
structure GSt (w W : World) (g2 : Nat) (n : Int) (A : Option Addr) (m c : Nat) : Prop where
  b : W.heap[g2]? = some (.cells #[.int .i64 n, .slice A m c] 38 (0, 0))
  below : Below w.heap.size w W
theorem GSt.later {w W W' : World} {g2 : Nat} {n : Int} {A : Option Addr} {m c : Nat} (h : GSt w W g2 n A m c) (hb : Below W.heap.size W W') : GSt w W' g2 n A m c := ⟨blk_below h.b hb, below_step h.below hb⟩
theorem GSt.cells {w W : World} {g2 : Nat} {n : Int} {A : Option Addr} {m c : Nat} (h : GSt w W g2 n A m c) : W.cell? ⟨g2, 0, none⟩ = some (.int .i64 n) ∧ W.cell? ⟨g2, 1, none⟩ = some (.slice A m c) := ⟨(blk_cell h.b 0).trans rfl, (blk_cell h.b 1).trans rfl⟩
set_option maxHeartbeats 16000000 in
set_option maxRecDepth 100000 in
theorem Translates_calls (n : Int) (A : Option Addr) (c : Nat) (gs : List S62) (A1 : Option Addr) (c1 : Nat) (l : List Int) (w : World) (hr : k62.C w A gs.length gs) (hc : gs.length ≤ c) (hr1 : kI.C w A1 l.length l) (hc1 : l.length ≤ c1) (hT : Tabs w) :
    Calls Tryz.prog 4 #[.agg #[.int .i64 n, .slice A gs.length c], .slice A1 l.length c1] w fun e w' => e = .returned (.bool true) ∧ Below w.heap.size w w' := by
  have hu24 := Tryz.underlying24
  have hu38 := Tryz.underlying38
  have HT := Aside0.mk hT
  have HR := Aside0.mk hr
  have HC := Aside0.mk hc
  have HR1 := Aside0.mk hr1
  have HC1 := Aside0.mk hc1
  clear hT hr hc hr1 hc1
  go_enter Tryz.func4, Tryz.ntmps4
  by_cases h1 : 40 < (gs.length : Int)
  · have d1 : decide (40 < (gs.length : Int)) = true := decide_eq_true h1
    clear h1
    go_wp2_with (first
      | ((with_reducible refine gate_dst (N := 2) rfl ?_); refine box_event ?hg (N := 2) ?hd (cs := #[.int .i64 n, .slice A gs.length c]) (t := 38) ?hr ?_; (case hd => rfl); (case hg => rfl); (case hr => first | (go_simp; done) | (go_simp; rfl)); intro g2 hg_ w2 h1_ h2_; have BK2 := Aside0.mk h1_; have HB2 := Aside0.mk h2_; have GEg2 := Aside0.mk hg_; clear h1_ h2_ hg_)
      | (go_at_call 10; refine (awake_calls w2 (HT.out.same HB2.out)).mono ?_; rintro e w3 ⟨rfl, hb⟩; have HL := Aside0.mk (GSt.later (⟨BK2.out, HB2.out⟩ : GSt w w2 g2 n A gs.length c) hb); have k0 := HL.out.cells.1; have k1 := HL.out.cells.2; clear hb))
    go_ret
    exact ⟨rfl, HL.out.below⟩
  have d1 : decide (40 < (gs.length : Int)) = false := decide_eq_false h1
  have H1 := Aside0.mk h1
  clear h1
  by_cases h2 : 40 < (l.length : Int)
  · have d2 : decide (40 < (l.length : Int)) = true := decide_eq_true h2
    clear h2
    go_wp2_with (first
      | ((with_reducible refine gate_dst (N := 2) rfl ?_); refine box_event ?hg (N := 2) ?hd (cs := #[.int .i64 n, .slice A gs.length c]) (t := 38) ?hr ?_; (case hd => rfl); (case hg => rfl); (case hr => first | (go_simp; done) | (go_simp; rfl)); intro g2 hg_ w2 h1_ h2_; have BK2 := Aside0.mk h1_; have HB2 := Aside0.mk h2_; have GEg2 := Aside0.mk hg_; clear h1_ h2_ hg_)
      | (go_at_call 10; refine (awake_calls w2 (HT.out.same HB2.out)).mono ?_; rintro e w3 ⟨rfl, hb⟩; have HL := Aside0.mk (GSt.later (⟨BK2.out, HB2.out⟩ : GSt w w2 g2 n A gs.length c) hb); have k0 := HL.out.cells.1; have k1 := HL.out.cells.2; clear hb))
    go_ret
    exact ⟨rfl, HL.out.below⟩
  have d2 : decide (40 < (l.length : Int)) = false := decide_eq_false h2
  have H2 := Aside0.mk h2
  clear h2
  obtain ⟨r, hres⟩ : ∃ r, r = transC n gs l := ⟨_, rfl⟩
  have HRES := Aside0.mk hres
  have HF := Aside0.mk (show Fine r.2.1 by rw [hres]; exact transC_fine n gs l (by have := H1.out; omega) (by have := H2.out; omega))
  clear hres
  obtain ⟨rn, rc, re⟩ := r
  simp only at HF
  go_wp2_with (first
    | ((with_reducible refine gate_dst (N := 2) rfl ?_); refine box_event ?hg (N := 2) ?hd (cs := #[.int .i64 n, .slice A gs.length c]) (t := 38) ?hr ?_; (case hd => rfl); (case hg => rfl); (case hr => first | (go_simp; done) | (go_simp; rfl)); intro g2 hg_ w2 h1_ h2_; have BK2 := Aside0.mk h1_; have HB2 := Aside0.mk h2_; have GEg2 := Aside0.mk hg_; clear h1_ h2_ hg_)
    | (go_at_call 10; refine (awake_calls w2 (HT.out.same HB2.out)).mono ?_; rintro e w3 ⟨rfl, hb⟩; have HL := Aside0.mk (GSt.later (⟨BK2.out, HB2.out⟩ : GSt w w2 g2 n A gs.length c) hb); have k0 := HL.out.cells.1; have k1 := HL.out.cells.2; clear hb))
  refine (tr2_calls n A c gs A1 c1 l w3 (Kd.C_below HR.out HL.out.below) HC.out (by have := H1.out; omega) (Kd.C_below HR1.out HL.out.below) (by have := H2.out; omega) (rn, rc, re) HRES.out).mono ?_
  rintro e w4 ⟨A4, c4, rfl, hc4, hr4, hb⟩
  have HL4 := Aside0.mk (HL.out.later hb)
  have H4 := Aside0.mk (And.intro hc4 hr4)
  clear hb hc4 hr4 k0 k1 BK2 HB2 HL
  simp only at H4 ⊢
  go_wp2_with (first
    | ((with_reducible refine gate_dst (N := 5) rfl ?_); refine box_event ?hg (N := 5) ?hd (cs := #[.int .i64 0, .slice none 0 0]) (t := 24) ?hr ?_; (case hd => rfl); (case hg => rfl); (case hr => first | (go_simp; done) | (go_simp; rfl)); intro g5 hg_ w5 h1_ h2_; have BK5 := Aside0.mk h1_; have HB5 := Aside0.mk h2_; have GEg5 := Aside0.mk hg_; clear h1_ h2_ hg_)
    | (((with_reducible refine gate_ (.store 24 (.tmp 5) (.tmp 24)) rfl ?_); refine st_box rfl rfl 24 (.tmp 5) (.tmp 24) rfl (g := g5) (T := 24) (cur := #[.int .i64 0, .slice none 0 0]) (u := .agg #[.int .i64 rn, .slice A4 rc.length c4]) rfl rfl (BK5.out) size24 rfl (by simp [Value.cells, Value.oneCell']) ?_; intro w6 h1_ h2_; have BK6 := Aside0.mk h1_; have HG6 := Aside0.mk h2_; clear h1_ h2_); have HX6 := Aside0.mk (show Below w4.heap.size w4 w6 from below_grown HB5.out HB5.out.size HG6.out (by rw [GEg5.out]; exact Nat.le_refl _)); have HL6 := Aside0.mk (HL4.out.later HX6.out); have q0 := HL6.out.cells.1; have q1 := HL6.out.cells.2))
  refine (rtr_calls n A c gs A1 c1 l w6 (Kd.C_below HR.out HL6.out.below) HC.out (by have := H1.out; omega) (Kd.C_below HR1.out HL6.out.below) HC1.out (by have := H2.out; omega) (rn, rc, re) HRES.out).mono ?_
  rintro e w7 ⟨A7, c7, rfl, hc7, hr7, hb⟩
  have HL7 := Aside0.mk (HL6.out.later hb)
  have H7 := Aside0.mk (And.intro hc7 hr7)
  have HK5 := Aside0.mk (blk_below BK6.out hb)
  have H47 := Aside0.mk (And.intro H4.out.1 (Kd.C_below H4.out.2 (below_step HX6.out hb)))
  clear hb hc7 hr7 q0 q1 HL6 HX6 HL4 BK5 BK6 HB5 HG6 GEg5 H4
  simp only at H7 H47 ⊢
  have z2 : (re == re) = true := by simp
  go_wp2_with (first
    | ((with_reducible refine gate_dst (N := 7) rfl ?_); refine box_event ?hg (N := 7) ?hd (cs := #[.int .i64 0, .slice none 0 0]) (t := 24) ?hr ?_; (case hd => rfl); (case hg => rfl); (case hr => first | (go_simp; done) | (go_simp; rfl)); intro g7 hg_ w8 h1_ h2_; have BK8 := Aside0.mk h1_; have HB8 := Aside0.mk h2_; have GEg7 := Aside0.mk hg_; clear h1_ h2_ hg_)
    | (((with_reducible refine gate_ (.store 24 (.tmp 7) (.tmp 30)) rfl ?_); refine st_box rfl rfl 24 (.tmp 7) (.tmp 30) rfl (g := g7) (T := 24) (cur := #[.int .i64 0, .slice none 0 0]) (u := .agg #[.int .i64 rn, .slice A7 rc.length c7]) rfl rfl (BK8.out) size24 rfl (by simp [Value.cells, Value.oneCell']) ?_; intro w9 h1_ h2_; have BK9 := Aside0.mk h1_; have HG9 := Aside0.mk h2_; clear h1_ h2_); have HX9 := Aside0.mk (show Below w7.heap.size w7 w9 from below_grown HB8.out HB8.out.size HG9.out (by rw [GEg7.out]; exact Nat.le_refl _)); have HL9 := Aside0.mk (HL7.out.later HX9.out); have HK59 := Aside0.mk (blk_below HK5.out HX9.out); have q0 : w9.cell? ⟨g5, 0, none⟩ = some (.int .i64 rn) := (blk_cell HK59.out 0).trans rfl; have q1 : w9.cell? ⟨g5, 1, none⟩ = some (.slice A4 rc.length c4) := (blk_cell HK59.out 1).trans rfl; have q2 : w9.cell? ⟨g7, 0, none⟩ = some (.int .i64 rn) := (blk_cell BK9.out 0).trans rfl; have q3 : w9.cell? ⟨g7, 1, none⟩ = some (.slice A7 rc.length c7) := (blk_cell BK9.out 1).trans rfl))
  refine (same_calls rn A4 c4 rc rn A7 c7 rc w9 (Kd.C_below H47.out.2 HX9.out) H47.out.1 (Kd.C_below H7.out.2 HX9.out) H7.out.1 HF.out).mono ?_
  rintro e w10 ⟨he, hb⟩
  rw [decide_eq_true rfl, decide_eq_true rfl] at he
  subst he
  have HL10 := Aside0.mk (HL9.out.later hb)
  clear hb
  go_wp2
  go_ret
  exact ⟨rfl, HL10.out.below⟩
end Go.Proofs.YteaohgebocbehaaGreatDoor.Hand
end
