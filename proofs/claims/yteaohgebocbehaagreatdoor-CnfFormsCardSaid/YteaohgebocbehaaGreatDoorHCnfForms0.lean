/- Texts of this claim, one behind the other; each begins with what it proves. Conditions as written in each theorem. -/
import Derived.Test.YteaohgebocbehaaGreatDoorHC0
import Derived.Test.YteaohgebocbehaaGreatDoorHC1
import Derived.Test.YteaohgebocbehaaGreatDoorXAx3
import Derived.Test.YteaohgebocbehaaGreatDoorXAx5
import Derived.Test.YteaohgebocbehaaGreatDoorXAx6
import Derived.Test.YteaohgebocbehaaGreatDoorXAx2
import Derived.Test.YteaohgebocbehaaGreatDoorXAx4
import Derived.Test.YteaohgebocbehaaGreatDoorXAx7
section
/- The reference's IsClause and Valid answer as the plain functions. Conditions: lists shorter than 2^62. -/
set_option linter.unusedVariables false
set_option linter.unusedSimpArgs false
namespace Go.Proofs.YteaohgebocbehaaGreatDoor.Plain
open Go.RowKit Go.Proofs.YteaohgebocbehaaGreatDoor.XA Go.Proofs.YteaohgebocbehaaGreatDoorW.PrintWords
theorem rvar_f {x : Int} (h0 : -9223372036854775807 ≤ x) (h1 : x ≤ 9223372036854775807) : assessorref26_Variable.f x = some (x.natAbs : Int) := by
  unfold assessorref26_Variable.f
  split
  · rw [w64 (by omega) (by omega)]; congr 1; omega
  · congr 1; omega
theorem isClause_ev (n : Int) (hn0 : 0 ≤ n) (hn : n ≤ 4611686018427387904) (c : List Int) (hc : c.length ≤ 4611686018427387904) :
    ∀ (d : Nat) (x : Int) (last : Nat), 0 ≤ x → x ≤ c.length → (c.length : Int) - x = d → (x = 0 → last = 0) → (0 < x → (last : Int) = (rd c (x - 1)).natAbs ∧ (last : Int) ≤ n) → Ev (fun k => assessorref26_IsClause.l0 k c n x) (nOk n last (c.drop x.toNat)) := by
  intro d
  induction d with
  | zero =>
    intro x last h0 h1 hd _ _
    rw [List.drop_eq_nil_of_le (by omega)]
    exact Ev.step (f := fun _ => some true) (fun k => by simp only [assessorref26_IsClause.l0]; rw [if_neg (by omega)]) (Ev.now _)
  | succ d ih =>
    intro x last h0 h1 hd hl0 hl1
    have hlt : x < (c.length : Int) := by omega
    rw [drop_rd h0 hlt]
    simp only [nOk]
    have hw : wrap64 (-n) = -n := w64 (by omega) (by omega)
    have hw2 : wrap64 (x + 1) = x + 1 := w64 (by omega) (by omega)
    have hw3 : 0 < x → wrap64 (x - 1) = x - 1 := fun _ => w64 (by omega) (by omega)
    have bad : ∀ b : Bool, b = false → (∀ k, assessorref26_IsClause.l0 (k + 1) c n x = assessorref26_IsClause.j1 k c n x true) → Ev (fun k => assessorref26_IsClause.l0 k c n x) (b && nOk n (rd c x).natAbs (c.drop (x + 1).toNat)) := fun b hb h => by
      rw [hb, Bool.false_and]
      refine Ev.step (f := fun k => assessorref26_IsClause.j1 k c n x true) h ?_
      exact Ev.step (f := fun _ => some false) (fun k => by simp only [assessorref26_IsClause.j1]; rfl) (Ev.now _)
    by_cases h2 : rd c x = 0
    · exact bad _ (decide_eq_false (by omega)) (fun k => by simp only [assessorref26_IsClause.l0]; rw [if_pos hlt, if_pos h0, if_pos h2])
    by_cases h3 : rd c x < -n
    · exact bad _ (decide_eq_false (by omega)) (fun k => by simp only [assessorref26_IsClause.l0]; rw [if_pos hlt, if_pos h0, if_neg h2, if_pos (by rw [hw]; exact h3)])
    by_cases h4 : rd c x > n
    · exact bad _ (decide_eq_false (by omega)) (fun k => by simp only [assessorref26_IsClause.l0]; rw [if_pos hlt, if_pos h0, if_neg h2, if_neg (by rw [hw]; exact h3), if_pos h4])
    have go : ∀ b : Bool, (b = decide (((rd c x).natAbs : Int) ≤ last)) → (∀ k, assessorref26_IsClause.l0 (k + 1) c n x = assessorref26_IsClause.j1 k c n x b) → Ev (fun k => assessorref26_IsClause.l0 k c n x) (decide (-n ≤ rd c x ∧ rd c x ≤ n ∧ last < (rd c x).natAbs) && nOk n (rd c x).natAbs (c.drop (x + 1).toNat)) := fun b hb h => by
      by_cases h5 : ((rd c x).natAbs : Int) ≤ last
      · refine bad _ (decide_eq_false (by omega)) (fun k => by rw [h k, hb, decide_eq_true h5])
      · rw [decide_eq_true (show -n ≤ rd c x ∧ rd c x ≤ n ∧ last < (rd c x).natAbs by omega), Bool.true_and]
        refine Ev.step (f := fun k => assessorref26_IsClause.j1 k c n x false) (fun k => by rw [h k, hb, decide_eq_false h5]) ?_
        refine Ev.step (f := fun k => assessorref26_IsClause.l0 k c n (x + 1)) (fun k => by simp only [assessorref26_IsClause.j1]; rw [hw2]; rfl) (ih (x + 1) _ (by omega) (by omega) (by omega) (by omega) (fun _ => ⟨by rw [show x + 1 - 1 = x by omega], by omega⟩))
    by_cases h5 : x > 0
    · obtain ⟨e1, e2⟩ := hl1 h5
      refine go _ rfl (fun k => ?_)
      simp only [assessorref26_IsClause.l0]
      rw [if_pos hlt, if_pos h0, if_neg h2, if_neg (by rw [hw]; exact h3), if_neg h4, if_pos h5, rvar_f (by omega) (by omega)]
      simp only [Option.bind_some]
      rw [hw3 h5, if_pos (by omega), if_pos (by omega), rvar_f (by omega) (by omega)]
      simp only [Option.bind_some, e1]
    · have e : last = 0 := hl0 (by omega)
      refine go false (by rw [e]; exact (decide_eq_false (by omega)).symm) (fun k => ?_)
      simp only [assessorref26_IsClause.l0]
      rw [if_pos hlt, if_pos h0, if_neg h2, if_neg (by rw [hw]; exact h3), if_neg h4, if_neg h5]
theorem isClause_f (n : Int) (hn0 : 0 ≤ n) (hn : n ≤ 4611686018427387904) (c : List Int) (hc : c.length ≤ 4611686018427387904) : Ev (fun k => assessorref26_IsClause.f k c n) (clauseOk n c) :=
  isClause_ev n hn0 hn c hc c.length 0 0 (by omega) (by omega) (by omega) (fun _ => rfl) (fun h => absurd h (by omega))
theorem rvalid_ev (n : Int) (hn0 : 0 ≤ n) (hn : n ≤ 65536) (cl : List (List Int)) (hc : ∀ c ∈ cl, c.length ≤ 4611686018427387904) (hl : cl.length ≤ 4611686018427387904) :
    ∀ (d : Nat) (x : Int), 0 ≤ x → x ≤ cl.length → (cl.length : Int) - x = d → Ev (fun k => assessorref26_Valid.l0 k x n cl) ((cl.drop x.toNat).all (clauseOk n)) := by
  intro d
  induction d with
  | zero =>
    intro x h0 h1 hd
    rw [List.drop_eq_nil_of_le (by omega)]
    exact Ev.step (f := fun _ => some true) (fun k => by simp only [assessorref26_Valid.l0]; rw [if_neg (by omega)]) (Ev.now _)
  | succ d ih =>
    intro x h0 h1 hd
    have hlt : x < (cl.length : Int) := by omega
    have hw2 : wrap64 (x + 1) = x + 1 := w64 (by omega) (by omega)
    rw [drop_rdL h0 hlt, List.all_cons]
    have hm : rd_L1 cl x ∈ cl := by rw [rdL_get h0 hlt]; exact List.getElem_mem _
    have hf := isClause_f n hn0 (by omega) (rd_L1 cl x) (hc _ hm)
    refine Ev.step (f := fun k => (assessorref26_IsClause.f k (rd_L1 cl x) n).bind fun t => if t = true then assessorref26_Valid.l0 k (wrap64 (x + 1)) n cl else some false) (fun k => by simp only [assessorref26_Valid.l0]; rw [if_pos hlt, if_pos h0]) (Ev.bind hf ?_)
    cases hb : clauseOk n (rd_L1 cl x) with
    | false => simpa using Ev.now false
    | true =>
      rw [hw2]
      simpa using ih (x + 1) (by omega) (by omega) (by omega)
theorem rvalid_f (n : Int) (cl : List (List Int)) (hc : ∀ c ∈ cl, c.length ≤ 4611686018427387904) (hl : cl.length ≤ 4611686018427387904) : Ev (fun k => assessorref26_Valid.f k n cl) (validC n cl) := by
  unfold validC
  by_cases h1 : n < 0
  · rw [decide_eq_false (by omega), Bool.false_and]
    refine Ev.congr (f := fun k => assessorref26_Valid.j0 k true n cl) (fun k => by unfold assessorref26_Valid.f; rw [if_pos h1]) ?_
    exact Ev.step (f := fun _ => some false) (fun k => by simp only [assessorref26_Valid.j0]; rfl) (Ev.now _)
  · by_cases h2 : n > 65536
    · rw [decide_eq_false (by omega), Bool.false_and]
      refine Ev.congr (f := fun k => assessorref26_Valid.j0 k true n cl) (fun k => by unfold assessorref26_Valid.f; rw [if_neg h1, if_pos h2]) ?_
      exact Ev.step (f := fun _ => some false) (fun k => by simp only [assessorref26_Valid.j0]; rfl) (Ev.now _)
    · by_cases h3 : (cl.length : Int) > 262144
      · rw [decide_eq_false (by omega), Bool.false_and]
        refine Ev.congr (f := fun k => assessorref26_Valid.j0 k true n cl) (fun k => by unfold assessorref26_Valid.f; rw [if_neg h1, if_neg h2, decide_eq_true h3]) ?_
        exact Ev.step (f := fun _ => some false) (fun k => by simp only [assessorref26_Valid.j0]; rfl) (Ev.now _)
      · rw [decide_eq_true (by omega), Bool.true_and]
        refine Ev.congr (f := fun k => assessorref26_Valid.j0 k false n cl) (fun k => by unfold assessorref26_Valid.f; rw [if_neg h1, if_neg h2, decide_eq_false h3]) ?_
        refine Ev.step (f := fun k => assessorref26_Valid.l0 k 0 n cl) (fun k => by simp only [assessorref26_Valid.j0]; rfl) ?_
        exact rvalid_ev n (by omega) (by omega) cl hc hl cl.length 0 (by omega) (by omega) (by omega)
end Go.Proofs.YteaohgebocbehaaGreatDoor.Plain
end
section
/- The reference's Normal, Holds and Literal answer as the plain functions. Conditions: short lists. -/
set_option linter.unusedVariables false
set_option linter.unusedSimpArgs false
namespace Go.Proofs.YteaohgebocbehaaGreatDoor.Plain
open Go.RowKit Go.Proofs.YteaohgebocbehaaGreatDoor.Hand Go.Proofs.YteaohgebocbehaaGreatDoor.XA Go.Proofs.YteaohgebocbehaaGreatDoorW.PrintWords
/-- Literals laid in one after the other. -/
def nrmR : List Int → List Int → List Int × Bool
  | out, [] => (out, true)
  | out, x :: t => if inR x then (match ins x out with | some r => nrmR r t | none => ([], false)) else ([], false)
theorem nrmR_eq : ∀ (l out : List Int), nrmR out l = if l.all inR then (match l.foldl (fun (o : Option (List Int)) x => o.bind (ins x)) (some out) with | some r => (r, true) | none => ([], false)) else ([], false)
  | [], out => by simp [nrmR]
  | x :: t, out => by
    simp only [nrmR, List.all_cons, List.foldl_cons, Option.bind_some]
    by_cases hx : inR x = true
    · simp only [hx, if_true, Bool.true_and]
      cases hi : ins x out with
      | some r => simp only; rw [nrmR_eq t r]
      | none =>
        simp only
        rw [foldl_none]
        split <;> rfl
    · rw [if_neg hx]
      simp [hx]
theorem nrm_R (l : List Int) : nrm l = nrmR [] l := by
  rw [nrmR_eq]
  rfl
theorem ins_len (x : Int) : ∀ (l r : List Int), ins x l = some r → r.length ≤ l.length + 1
  | [], r, h => by simp [ins] at h; subst h; simp
  | y :: t, r, h => by
    unfold ins at h
    split at h
    · obtain ⟨q, hq, rfl⟩ := Option.map_eq_some_iff.1 h
      have := ins_len x t q hq
      simp; omega
    · split at h
      · cases h; simp
      · split at h
        · cases h
        · cases h; simp
theorem inR_iff (x : Int) : inR x = true ↔ x ≠ 0 ∧ -1073741824 ≤ x ∧ x ≤ 1073741824 := by simp [inR]
theorem rnormal_l1 (x0 out : List Int) (x5 : Int) (h5 : 0 ≤ x5) (h5' : x5 < (x0.length : Int)) (hl0 : x0.length ≤ 1000000) (ho : out.length ≤ 1000000) (hin : inR (rd x0 x5) = true) (hall : ∀ y ∈ out, inR y = true) (R : List Int × Bool)
    (h1 : ∀ r, ins (rd x0 x5) out = some r → Ev (fun k => assessorref26_Normal.l0 k x0 r (x5 + 1)) R) (h2 : ins (rd x0 x5) out = none → R = ([], false)) :
    ∀ (d : Nat) (i : Int), 0 ≤ i → i ≤ out.length → (out.length : Int) - i = d → (ins (rd x0 x5) out = (ins (rd x0 x5) (out.drop i.toNat)).map (out.take i.toNat ++ ·)) → Ev (fun k => assessorref26_Normal.l1 k x0 out x5 i) R := by
  have hw5 : wrap64 (x5 + 1) = x5 + 1 := w64 (by omega) (by omega)
  have hx := (inR_iff _).1 hin
  have hvx := rvar_f (x := rd x0 x5) (by omega) (by omega)
  have hwx : wrap64 (-(rd x0 x5)) = -(rd x0 x5) := w64 (by omega) (by omega)
  intro d
  induction d with
  | zero =>
    intro i h0 h1' hd hins
    have hil : i = out.length := by omega
    rw [List.drop_eq_nil_of_le (by omega), List.take_of_length_le (by omega)] at hins
    simp only [ins, Option.map_some] at hins
    refine Ev.step (f := fun k => assessorref26_Normal.j3 k x0 out x5 i) (fun k => by simp only [assessorref26_Normal.l1]; rw [if_neg (by omega)]) ?_
    refine Ev.step (f := fun k => assessorref26_Normal.j4 k x0 out x5 i false) (fun k => by simp only [assessorref26_Normal.j3]; rw [if_neg (by omega)]) ?_
    refine Ev.step (fun k => ?_) (h1 _ hins)
    simp only [assessorref26_Normal.j4, Option.bind_some, Bool.false_eq_true, if_false]
    rw [if_neg (by omega), if_pos h0, if_pos (by omega), List.take_of_length_le (by omega), List.drop_eq_nil_of_le (by omega)]
    simp only [List.nil_append, List.append_nil, List.length_nil, Nat.zero_add, Nat.add_zero]
    rw [if_pos (by omega), if_pos h5, if_pos h5', if_pos (by omega), if_pos (by simp; omega), hw5]
  | succ d ih =>
    intro i h0 h1' hd hins
    have hlt : i < (out.length : Int) := by omega
    have hwi : wrap64 (i + 1) = i + 1 := w64 (by omega) (by omega)
    have hy : inR (rd out i) = true := hall _ (by rw [rd_get h0 hlt]; exact List.getElem_mem _)
    have hyr := (inR_iff _).1 hy
    have hvy := rvar_f (x := rd out i) (by omega) (by omega)
    rw [drop_rd h0 hlt] at hins
    by_cases hc : ((rd out i).natAbs : Int) < ((rd x0 x5).natAbs : Int)
    · refine Ev.step (f := fun k => assessorref26_Normal.l1 k x0 out x5 (i + 1)) (fun k => ?_) (ih (i + 1) (by omega) (by omega) (by omega) ?_)
      · simp only [assessorref26_Normal.l1]
        rw [if_pos hlt, if_pos h0, hvy]
        simp only [Option.bind_some]
        rw [if_pos h5, if_pos h5', hvx]
        simp only [Option.bind_some]
        rw [if_pos hc, hwi]
      · rw [hins]
        simp only [ins]
        rw [if_pos (by omega), Option.map_map]
        congr 1
        funext r
        have : out.take (i + 1).toNat = out.take i.toNat ++ [rd out i] := by
          rw [show (i + 1).toNat = i.toNat + 1 by omega, List.take_add_one, List.getElem?_eq_getElem (by omega), rd_get h0 hlt]
          rfl
        simp [this]
    · simp only [ins] at hins
      rw [if_neg (by omega)] at hins
      refine Ev.step (f := fun k => assessorref26_Normal.j3 k x0 out x5 i) (fun k => ?_) ?_
      · simp only [assessorref26_Normal.l1]
        rw [if_pos hlt, if_pos h0, hvy]
        simp only [Option.bind_some]
        rw [if_pos h5, if_pos h5', hvx]
        simp only [Option.bind_some]
        rw [if_neg hc]
      refine Ev.step (f := fun k => assessorref26_Normal.j4 k x0 out x5 i (rd out i == -(rd x0 x5))) (fun k => by simp only [assessorref26_Normal.j3]; rw [if_pos hlt, if_pos h0, if_pos h5, if_pos h5', hwx]) ?_
      by_cases hneg : rd out i = -(rd x0 x5)
      · rw [if_neg (by omega), if_pos hneg] at hins
        rw [h2 (by rw [hins]; rfl)]
        exact Ev.step (f := fun _ => some ([], false)) (fun k => by simp only [assessorref26_Normal.j4]; rw [if_pos (by simpa using hneg)]) (Ev.now _)
      · by_cases heq : rd out i = rd x0 x5
        · rw [if_pos heq] at hins
          have hto : out.take i.toNat ++ rd out i :: out.drop (i + 1).toNat = out := by rw [← drop_rd h0 hlt, List.take_append_drop]
          simp only [Option.map_some, hto] at hins
          refine Ev.step (fun k => ?_) (h1 _ hins)
          simp only [assessorref26_Normal.j4]
          rw [if_neg (by simpa using hneg), if_pos hlt, if_pos h0, if_pos h5, if_pos h5', if_pos heq, hw5]
        · rw [if_neg heq, if_neg hneg] at hins
          simp only [Option.map_some] at hins
          refine Ev.step (fun k => ?_) (h1 _ hins)
          simp only [assessorref26_Normal.j4, Option.bind_some]
          rw [if_neg (by simpa using hneg), if_pos hlt, if_pos h0, if_pos h5, if_pos h5', if_neg heq, if_pos (by omega)]
          have hdl : (out.drop i.toNat) = rd out i :: out.drop (i + 1).toNat := drop_rd h0 hlt
          simp only [List.nil_append, List.length_nil, Nat.zero_add]
          rw [if_pos (by rw [List.length_take]; omega), if_pos (by rw [List.length_take]; omega), if_pos (by simp only [List.length_append, List.length_take, List.length_drop, List.length_singleton]; omega), hw5, hdl]
          simp
theorem ins_all (x : Int) (hx : inR x = true) : ∀ (l r : List Int), ins x l = some r → (∀ y ∈ l, inR y = true) → ∀ y ∈ r, inR y = true
  | [], r, h, _ => by simp [ins] at h; subst h; simpa using hx
  | z :: t, r, h, hl => by
    have hz := hl z List.mem_cons_self
    have ht := fun y hy => hl y (List.mem_cons_of_mem _ hy)
    unfold ins at h
    split at h
    · obtain ⟨q, hq, rfl⟩ := Option.map_eq_some_iff.1 h
      intro y hy
      rcases List.mem_cons.1 hy with rfl | hy
      · exact hz
      · exact ins_all x hx t q hq ht y hy
    · split at h
      · cases h; exact hl
      · split at h
        · cases h
        · cases h
          intro y hy
          rcases List.mem_cons.1 hy with rfl | hy
          · exact hx
          · exact hl y hy
theorem rnormal_l0 (x0 : List Int) (hl0 : x0.length ≤ 1000000) : ∀ (d : Nat) (x5 : Int) (out : List Int), 0 ≤ x5 → x5 ≤ x0.length → (x0.length : Int) - x5 = d → (out.length : Int) ≤ x5 → (∀ y ∈ out, inR y = true) → Ev (fun k => assessorref26_Normal.l0 k x0 out x5) (nrmR out (x0.drop x5.toNat)) := by
  intro d
  induction d with
  | zero =>
    intro x5 out h0 h1 hd ho hall
    rw [List.drop_eq_nil_of_le (by omega)]
    exact Ev.step (f := fun _ => some (out, true)) (fun k => by simp only [assessorref26_Normal.l0]; rw [if_neg (by omega)]) (Ev.now _)
  | succ d ih =>
    intro x5 out h0 h1 hd ho hall
    have hlt : x5 < (x0.length : Int) := by omega
    rw [drop_rd h0 hlt]
    simp only [nrmR]
    have bad : (∀ k, assessorref26_Normal.l0 (k + 1) x0 out x5 = assessorref26_Normal.j1 k x0 out x5 true) → inR (rd x0 x5) = false → Ev (fun k => assessorref26_Normal.l0 k x0 out x5) (if inR (rd x0 x5) = true then (match ins (rd x0 x5) out with | some r => nrmR r (x0.drop (x5 + 1).toNat) | none => ([], false)) else ([], false)) := fun h hb => by
      rw [if_neg (by rw [hb]; simp)]
      exact Ev.step (f := fun k => assessorref26_Normal.j1 k x0 out x5 true) h (Ev.step (f := fun _ => some ([], false)) (fun k => by simp only [assessorref26_Normal.j1]; rfl) (Ev.now _))
    by_cases hz : rd x0 x5 = 0
    · exact bad (fun k => by simp only [assessorref26_Normal.l0]; rw [if_pos hlt, if_pos h0, if_pos hz]) (by simp [inR, hz])
    by_cases hlo : rd x0 x5 < -1073741824
    · exact bad (fun k => by simp only [assessorref26_Normal.l0]; rw [if_pos hlt, if_pos h0, if_neg hz, if_pos hlo]) (by simp [inR]; omega)
    by_cases hhi : rd x0 x5 > 1073741824
    · exact bad (fun k => by simp only [assessorref26_Normal.l0]; rw [if_pos hlt, if_pos h0, if_neg hz, if_neg hlo, decide_eq_true hhi]) (by simp [inR]; omega)
    have hin : inR (rd x0 x5) = true := (inR_iff _).2 ⟨hz, by omega, by omega⟩
    rw [if_pos hin]
    refine Ev.step (f := fun k => assessorref26_Normal.j1 k x0 out x5 false) (fun k => by simp only [assessorref26_Normal.l0]; rw [if_pos hlt, if_pos h0, if_neg hz, if_neg hlo, decide_eq_false hhi]) ?_
    refine Ev.step (f := fun k => assessorref26_Normal.l1 k x0 out x5 0) (fun k => by simp only [assessorref26_Normal.j1]; rfl) ?_
    refine rnormal_l1 x0 out x5 h0 hlt hl0 (by omega) hin hall _ (fun r hr => ?_) (fun hn => by rw [hn]) out.length 0 (by omega) (by omega) (by omega) (by simp)
    rw [hr]
    exact ih (x5 + 1) r (by omega) (by omega) (by omega) (by have := ins_len _ _ _ hr; omega) (ins_all _ hin _ _ hr hall)
theorem rnormal_f (l : List Int) (hl : l.length ≤ 1000000) : Ev (fun k => assessorref26_Normal.f k l) (nrm l) := by
  rw [nrm_R]
  have h := rnormal_l0 l hl l.length 0 [] (by omega) (by omega) (by omega) (by simp) (by simp)
  exact h
theorem ris_ev (m : List Int) (hm : m.length ≤ 1000000) : ∀ (d : Nat) (x : Int), 0 ≤ x → x ≤ m.length → (m.length : Int) - x = d → Ev (fun k => assessorref26_IsModel.l0 k m x) (mOk x.toNat (m.drop x.toNat)) := by
  intro d
  induction d with
  | zero =>
    intro x h0 h1 hd
    rw [mOk_end (by omega)]
    exact Ev.step (f := fun _ => some true) (fun k => by simp only [assessorref26_IsModel.l0]; rw [if_neg (by omega)]) (Ev.now _)
  | succ d ih =>
    intro x h0 h1 hd
    have hlt : x < (m.length : Int) := by omega
    have hw : wrap64 (x + 1) = x + 1 := w64 (by omega) (by omega)
    have hw2 : wrap64 (-(x + 1)) = -(x + 1) := w64 (by omega) (by omega)
    rw [mOk_step h0 hlt rfl rfl]
    by_cases ha : rd m x = x + 1
    · rw [decide_eq_true (Or.inl ha), Bool.true_and]
      exact Ev.step (f := fun k => assessorref26_IsModel.l0 k m (x + 1)) (fun k => by simp only [assessorref26_IsModel.l0]; rw [if_pos hlt, if_pos h0, hw, if_pos ha]) (ih (x + 1) (by omega) (by omega) (by omega))
    · by_cases hb : rd m x = -(x + 1)
      · rw [decide_eq_true (Or.inr (by omega)), Bool.true_and]
        exact Ev.step (f := fun k => assessorref26_IsModel.l0 k m (x + 1)) (fun k => by simp only [assessorref26_IsModel.l0]; rw [if_pos hlt, if_pos h0, hw, if_neg ha, hw2, if_pos hb]) (ih (x + 1) (by omega) (by omega) (by omega))
      · rw [decide_eq_false (by omega), Bool.false_and]
        exact Ev.step (f := fun _ => some false) (fun k => by simp only [assessorref26_IsModel.l0]; rw [if_pos hlt, if_pos h0, hw, if_neg ha, hw2, if_neg hb]) (Ev.now _)
theorem rmodel_f (n : Int) (m : List Int) (hm : m.length ≤ 1000000) : Ev (fun k => assessorref26_IsModel.f k n m) (decide ((m.length : Int) = n) && mOk 0 m) := by
  by_cases h : (m.length : Int) = n
  · rw [decide_eq_true h, Bool.true_and]
    have h2 := ris_ev m hm m.length 0 (by omega) (by omega) (by omega)
    exact Ev.congr (fun k => by unfold assessorref26_IsModel.f; rw [if_pos h]) h2
  · rw [decide_eq_false h, Bool.false_and]
    exact Ev.congr (f := fun _ => some false) (fun k => by unfold assessorref26_IsModel.f; rw [if_neg h]) (Ev.now _)
theorem rholds_l1 (n : Int) (cl : List (List Int)) (m : List Int) (hm : (m.length : Int) = n) (hn : n ≤ 65536) (x5 : Int) (h5 : 0 ≤ x5) (h5' : x5 < (cl.length : Int)) (hc : clauseOk n (rd_L1 cl x5) = true) (R : Bool)
    (h1 : (rd_L1 cl x5).any (mAt m) = true → Ev (fun k => assessorref26_Holds.l0 k m (x5 + 1) n cl) R) (h2 : (rd_L1 cl x5).any (mAt m) = false → R = false) (hl : cl.length ≤ 4611686018427387904) :
    ∀ (d : Nat) (x : Int) (b : Bool), 0 ≤ x → x ≤ (rd_L1 cl x5).length → ((rd_L1 cl x5).length : Int) - x = d → ((b || ((rd_L1 cl x5).drop x.toNat).any (mAt m)) = (rd_L1 cl x5).any (mAt m)) → Ev (fun k => assessorref26_Holds.l1 k m x5 b x n cl) R := by
  have hw5 : wrap64 (x5 + 1) = x5 + 1 := w64 (by omega) (by omega)
  have hlen := clauseOk_length (by omega) hc
  have hck := ((clauseOk_iff n _).1 hc).2
  intro d
  induction d with
  | zero =>
    intro x b h0 hx1 hd hb
    rw [List.drop_eq_nil_of_le (by omega)] at hb
    simp only [List.any_nil, Bool.or_false] at hb
    cases b with
    | true => exact Ev.step (fun k => by simp only [assessorref26_Holds.l1]; rw [if_pos h5, if_pos h5', if_neg (by omega), if_pos trivial, hw5]) (h1 hb.symm)
    | false =>
      rw [h2 hb.symm]
      exact Ev.step (f := fun _ => some false) (fun k => by simp only [assessorref26_Holds.l1]; rw [if_pos h5, if_pos h5', if_neg (by omega), if_neg (by simp)]) (Ev.now _)
  | succ d ih =>
    intro x b h0 hx1 hd hb
    have hlt : x < ((rd_L1 cl x5).length : Int) := by omega
    have hw : wrap64 (x + 1) = x + 1 := w64 (by omega) (by omega)
    rw [drop_rd h0 hlt, List.any_cons] at hb
    have hr := hck (rd (rd_L1 cl x5) x) (by rw [rd_get h0 hlt]; exact List.getElem_mem _)
    cases b with
    | true =>
      exact Ev.step (fun k => by simp only [assessorref26_Holds.l1]; rw [if_pos h5, if_pos h5', if_pos hlt, if_pos h0, if_pos trivial, hw]) (ih (x + 1) true (by omega) (by omega) (by omega) (by rw [Bool.true_or] at hb ⊢; exact hb))
    | false =>
      have hv := rvar_f (x := rd (rd_L1 cl x5) x) (by omega) (by omega)
      have hw2 : wrap64 (((rd (rd_L1 cl x5) x).natAbs : Int) - 1) = ((rd (rd_L1 cl x5) x).natAbs : Int) - 1 := w64 (by omega) (by omega)
      refine Ev.step (f := fun k => assessorref26_Holds.l1 k m x5 (mAt m (rd (rd_L1 cl x5) x)) (x + 1) n cl) (fun k => ?_) (ih (x + 1) _ (by omega) (by omega) (by omega) (by rw [← hb, Bool.false_or]))
      simp only [assessorref26_Holds.l1]
      rw [if_pos h5, if_pos h5', if_pos hlt, if_pos h0, if_neg (by simp), hv]
      simp only [Option.bind_some]
      rw [hw2, if_pos (by omega), if_pos (by omega), hw]
      congr 1
theorem rholds_l0 (n : Int) (cl : List (List Int)) (m : List Int) (hm : (m.length : Int) = n) (hn : n ≤ 65536) (hcl : ∀ c ∈ cl, clauseOk n c = true) (hl : cl.length ≤ 4611686018427387904) :
    ∀ (d : Nat) (x : Int), 0 ≤ x → x ≤ cl.length → (cl.length : Int) - x = d → Ev (fun k => assessorref26_Holds.l0 k m x n cl) ((cl.drop x.toNat).all fun c => c.any (mAt m)) := by
  intro d
  induction d with
  | zero =>
    intro x h0 h1 hd
    rw [List.drop_eq_nil_of_le (by omega)]
    exact Ev.step (f := fun _ => some true) (fun k => by simp only [assessorref26_Holds.l0]; rw [if_neg (by omega)]) (Ev.now _)
  | succ d ih =>
    intro x h0 h1 hd
    have hlt : x < (cl.length : Int) := by omega
    rw [drop_rdL h0 hlt, List.all_cons]
    have hmem : rd_L1 cl x ∈ cl := by rw [rdL_get h0 hlt]; exact List.getElem_mem _
    refine Ev.step (f := fun k => assessorref26_Holds.l1 k m x false 0 n cl) (fun k => by simp only [assessorref26_Holds.l0]; rw [if_pos hlt]) ?_
    refine rholds_l1 n cl m hm hn x h0 hlt (hcl _ hmem) _ (fun ht => ?_) (fun hf => by rw [hf, Bool.false_and]) hl (rd_L1 cl x).length 0 false (by omega) (by omega) (by omega) (by simp)
    rw [ht, Bool.true_and]
    exact ih (x + 1) (by omega) (by omega) (by omega)
theorem rholds_f (n : Int) (cl : List (List Int)) (m : List Int) (hc : ∀ c ∈ cl, c.length ≤ 4611686018427387904) (hl : cl.length ≤ 4611686018427387904) (hm : m.length ≤ 1000000) : Ev (fun k => assessorref26_Holds.f k n cl m) (holdsC n cl m) := by
  have hv := rvalid_f n cl hc hl
  refine Ev.congr (fun k => by unfold assessorref26_Holds.f; rfl) (Ev.bind hv ?_)
  unfold holdsC
  by_cases hvc : validC n cl = true
  · simp only [hvc, if_true, Bool.true_and]
    obtain ⟨⟨h0n, hn, _⟩, hcl⟩ := (validC_iff n cl).1 hvc
    refine Ev.bind (rmodel_f n m hm) ?_
    rw [← Bool.and_assoc]
    cases hb : (decide ((m.length : Int) = n) && mOk 0 m) with
    | false => exact Ev.step (f := fun _ => some false) (fun k => by simp only [assessorref26_Holds.j0]; rfl) (by rw [Bool.false_and]; exact Ev.now _)
    | true =>
      rw [Bool.true_and]
      have hmn : (m.length : Int) = n := of_decide_eq_true ((Bool.and_eq_true _ _).mp hb).1
      refine Ev.step (f := fun k => assessorref26_Holds.l0 k m 0 n cl) (fun k => by simp only [assessorref26_Holds.j0]; rfl) ?_
      exact rholds_l0 n cl m hmn hn hcl hl cl.length 0 (by omega) (by omega) (by omega)
  · simp only [hvc, Bool.false_and, Bool.false_eq_true, if_false]
    exact Ev.step (f := fun _ => some false) (fun k => by simp only [assessorref26_Holds.j0]; rfl) (Ev.now _)
theorem rlit_f (x : Int) : assessorref26_Literal.f x = some (litC x) := litC_f x
end Go.Proofs.YteaohgebocbehaaGreatDoor.Plain
end
section
/- CnfForms: the walk: true at every formula, clause, model and number, given what the library's variables hold. -/
set_option linter.unusedVariables false
set_option linter.unusedSimpArgs false
namespace Go.Proofs.YteaohgebocbehaaGreatDoor.Hand
open Go.RowKit Go.Lib Go.Shelf Go.Proofs.YteaohgebocbehaaGreatDoor.Reg Go.Proofs.YteaohgebocbehaaGreatDoorW Go.Proofs.YteaohgebocbehaaGreatDoorW.PrintWords Go.Proofs.YteaohgebocbehaaGreatDoorW.PrintLast Go.Proofs.YteaohgebocbehaaGreatDoorW.PrintMore Go.Proofs.YteaohgebocbehaaGreatDoor.Plain Go.Proofs.YteaohgebocbehaaGreatDoor.XA
attribute [local go_sem] max2_int min2_int max_two min_two max_three min_three max_four min_four
theorem rnormal_calls (A : Option Addr) (c : Nat) (l : List Int) (W : World) (hr : kI.C W A l.length l) (hc : l.length ≤ c) (hl : l.length ≤ 1000000) (q : List Int × Bool) (hq : q = nrm l) :
    Calls Tryz.prog 13 #[.slice A l.length c] W fun e w' => ∃ A' c', e = .returned (.tuple #[.slice A' q.1.length c', .bool q.2]) ∧ q.1.length ≤ c' ∧ kI.C w' A' q.1.length q.1 ∧ Below W.heap.size W w' := by
  subst hq
  obtain ⟨k, h⟩ := (rnormal_f l hl).rounds
  refine (assessorref26_Normal.calls k A c l (nrm l).1 (nrm l).2 W hr hc h).mono ?_
  rintro e w' ⟨v, rfl, hR, hb⟩
  obtain ⟨A', c', rfl⟩ := Kd.R_slice hR
  exact ⟨A', c', rfl, (Kd.R_reads' hR).2.1, (Kd.R_reads' hR).2.2, hb⟩
theorem normal2_calls (A : Option Addr) (c : Nat) (l : List Int) (W : World) (hr : kI.C W A l.length l) (hc : l.length ≤ c) (hl : l.length ≤ 1000000) (q : List Int × Bool) (hq : q = nrm l) :
    Calls Tryz.prog 12 #[.slice A l.length c] W fun e w' => ∃ A' c', e = .returned (.tuple #[.slice A' q.1.length c', .bool q.2]) ∧ q.1.length ≤ c' ∧ kI.C w' A' q.1.length q.1 ∧ Below W.heap.size W w' := by
  subst hq
  refine (Normal_calls A c l W hr hc (by omega)).mono ?_
  rintro e w' ⟨v, rfl, hR, hb⟩
  obtain ⟨A', c', rfl⟩ := Kd.R_slice hR
  exact ⟨A', c', rfl, (Kd.R_reads' hR).2.1, (Kd.R_reads' hR).2.2, hb⟩
theorem rvalid_calls (n : Int) (A : Option Addr) (c : Nat) (cl : List (List Int)) (W : World) (hr : kL.C W A cl.length cl) (hc : cl.length ≤ c) (hf : Fine cl) :
    Calls Tryz.prog 16 #[.agg #[.int .i64 n, .slice A cl.length c]] W fun e w' => e = .returned (.bool (validC n cl)) ∧ Below W.heap.size W w' := by
  obtain ⟨k, h⟩ := (rvalid_f n cl (fun c hc => by have := hf.2 c hc; omega) (by have := hf.1; omega)).rounds
  exact assessorref26_Valid.calls k n A c cl _ W hr hc h
theorem rholds_calls (n : Int) (A : Option Addr) (c : Nat) (cl : List (List Int)) (Am : Option Addr) (cm : Nat) (m : List Int) (W : World) (hr : kL.C W A cl.length cl) (hc : cl.length ≤ c) (hf : Fine cl) (hm : kI.C W Am m.length m) (hcm : m.length ≤ cm) (hml : m.length ≤ 1000000) :
    Calls Tryz.prog 18 #[.agg #[.int .i64 n, .slice A cl.length c], .slice Am m.length cm] W fun e w' => e = .returned (.bool (holdsC n cl m)) ∧ Below W.heap.size W w' := by
  obtain ⟨k, h⟩ := (rholds_f n cl m (fun c hc => by have := hf.2 c hc; omega) (by have := hf.1; omega) hml).rounds
  exact assessorref26_Holds.calls k n A c cl Am cm m _ W hr hc hm hcm h
theorem nrm_len (l : List Int) (hl : l.length ≤ 1000000) : (nrm l).1.length ≤ 4611686018427387904 := by
  rw [nrm_R]
  have key : ∀ (l out : List Int), (nrmR out l).1.length ≤ out.length + l.length := by
    intro l
    induction l with
    | nil => intro out; simp [nrmR]
    | cons x t ih =>
      intro out
      simp only [nrmR]
      split
      · split
        · rename_i r hr
          have h1 := ins_len _ _ _ hr
          have h2 := ih r
          simp only [List.length_cons]
          omega
        · simp
      · simp
  have := key l []
  simp only [List.length_nil] at this
  omega
set_option maxHeartbeats 16000000 in
set_option maxRecDepth 100000 in
theorem Forms_calls (n : Int) (A : Option Addr) (c : Nat) (cl : List (List Int)) (A1 : Option Addr) (c1 : Nat) (l1 : List Int) (A2 : Option Addr) (c2 : Nat) (m : List Int) (x : Int) (w : World) (hr : kL.C w A cl.length cl) (hc : cl.length ≤ c) (hr1 : kI.C w A1 l1.length l1) (hc1 : l1.length ≤ c1) (hr2 : kI.C w A2 m.length m) (hc2 : m.length ≤ c2) (hT : Tabs w) :
    Calls Tryz.prog 3 #[.agg #[.int .i64 n, .slice A cl.length c], .slice A1 l1.length c1, .slice A2 m.length c2, .int .i64 x] w fun e w' => e = .returned (.bool true) ∧ Below w.heap.size w w' := by
  have hu24 := Tryz.underlying24
  have HT := Aside0.mk hT
  have HR := Aside0.mk hr
  have HC := Aside0.mk hc
  have HR1 := Aside0.mk hr1
  have HC1 := Aside0.mk hc1
  have HR2 := Aside0.mk hr2
  have HC2 := Aside0.mk hc2
  clear hT hr hc hr1 hc1 hr2 hc2
  go_enter Tryz.func3, Tryz.ntmps3
  by_cases h1 : 40 < (cl.length : Int)
  · have d1 : decide (40 < (cl.length : Int)) = true := decide_eq_true h1
    clear h1
    go_wp2_with (first
      | ((with_reducible refine gate_dst (N := 4) rfl ?_); refine box_event ?hg (N := 4) ?hd (cs := #[.int .i64 n, .slice A cl.length c]) (t := 24) ?hr ?_; (case hd => rfl); (case hg => rfl); (case hr => first | (go_simp; done) | (go_simp; rfl)); intro g2 hg_ w2 h1_ h2_; have BK2 := Aside0.mk h1_; have HB2 := Aside0.mk h2_; have GEg2 := Aside0.mk hg_; clear h1_ h2_ hg_)
      | (go_at_call 10; refine (awake_calls w2 (HT.out.same HB2.out)).mono ?_; rintro e w3 ⟨rfl, hb⟩; have HL := Aside0.mk (LSt.later (⟨BK2.out, HB2.out⟩ : LSt w w2 g2 n A cl.length c) hb); have k0 := HL.out.cells.1; have k1 := HL.out.cells.2; clear hb))
    go_ret
    exact ⟨rfl, HL.out.below⟩
  have d1 : decide (40 < (cl.length : Int)) = false := decide_eq_false h1
  have H1 := Aside0.mk h1
  clear h1
  go_wp2_with (first
    | ((with_reducible refine gate_dst (N := 4) rfl ?_); refine box_event ?hg (N := 4) ?hd (cs := #[.int .i64 n, .slice A cl.length c]) (t := 24) ?hr ?_; (case hd => rfl); (case hg => rfl); (case hr => first | (go_simp; done) | (go_simp; rfl)); intro g2 hg_ w2 h1_ h2_; have BK2 := Aside0.mk h1_; have HB2 := Aside0.mk h2_; have GEg2 := Aside0.mk hg_; clear h1_ h2_ hg_)
    | (go_at_call 10; refine (awake_calls w2 (HT.out.same HB2.out)).mono ?_; rintro e w3 ⟨rfl, hb⟩; have HL := Aside0.mk (LSt.later (⟨BK2.out, HB2.out⟩ : LSt w w2 g2 n A cl.length c) hb); have k0 := HL.out.cells.1; have k1 := HL.out.cells.2; clear hb))
  refine (small_calls 0 0 40 A c cl w3 (Kd.C_below HR.out HL.out.below) HC.out (by have := H1.out; omega)).mono ?_
  rintro e w4 ⟨rfl, hb⟩
  have HL4 := Aside0.mk (HL.out.later hb)
  obtain ⟨k40, k41⟩ := HL4.out.cells
  clear hb k0 k1 BK2 HB2 HL
  obtain ⟨sm, hsm⟩ : ∃ b, b = smallC 0 cl 0 40 := ⟨_, rfl⟩
  rw [← hsm]
  have HSM := Aside0.mk hsm
  clear hsm
  cases sm with
  | false =>
    go_wp2
    go_ret
    exact ⟨rfl, HL4.out.below⟩
  | true =>
    by_cases h2 : 30 < (l1.length : Int)
    · have d2 : decide (30 < (l1.length : Int)) = true := decide_eq_true h2
      clear h2
      go_wp2
      go_ret
      exact ⟨rfl, HL4.out.below⟩
    have d2 : decide (30 < (l1.length : Int)) = false := decide_eq_false h2
    have H2 := Aside0.mk h2
    clear h2
    by_cases h3 : 60 < (m.length : Int)
    · have d3 : decide (60 < (m.length : Int)) = true := decide_eq_true h3
      clear h3
      go_wp2
      go_ret
      exact ⟨rfl, HL4.out.below⟩
    have d3 : decide (60 < (m.length : Int)) = false := decide_eq_false h3
    have H3 := Aside0.mk h3
    clear h3
    have HF := Aside0.mk (small_fine HSM.out.symm (by have := H1.out; omega))
    obtain ⟨q, hq⟩ : ∃ q, q = nrm l1 := ⟨_, rfl⟩
    have HQ := Aside0.mk hq
    have HQL := Aside0.mk (show q.1.length ≤ 4611686018427387904 by rw [hq]; exact nrm_len l1 (by have := H2.out; omega))
    clear hq
    obtain ⟨q1, q2⟩ := q
    obtain ⟨vb, hvb⟩ : ∃ b, b = validC n cl := ⟨_, rfl⟩
    have HVB := Aside0.mk hvb
    clear hvb
    obtain ⟨hb2, hhb⟩ : ∃ b, b = holdsC n cl m := ⟨_, rfl⟩
    have HHB := Aside0.mk hhb
    clear hhb
    obtain ⟨li, hli⟩ : ∃ b, b = litC x := ⟨_, rfl⟩
    have HLI := Aside0.mk hli
    clear hli
    go_wp2_with (fail)
    refine (normal2_calls A1 c1 l1 w4 (Kd.C_below HR1.out HL4.out.below) HC1.out (by have := H2.out; omega) (q1, q2) HQ.out).mono ?_
    rintro e w5 ⟨A5, c5, rfl, hc5, hr5, hb⟩
    have HL5 := Aside0.mk (HL4.out.later hb)
    have H5 := Aside0.mk (And.intro hc5 hr5)
    clear hb hc5 hr5 k40 k41 HL4
    simp only at H5 ⊢
    go_wp2_with (fail)
    refine (rnormal_calls A1 c1 l1 w5 (Kd.C_below HR1.out HL5.out.below) HC1.out (by have := H2.out; omega) (q1, q2) HQ.out).mono ?_
    rintro e w6 ⟨A6, c6, rfl, hc6, hr6, hb⟩
    have HL6 := Aside0.mk (HL5.out.later hb)
    have H6 := Aside0.mk (And.intro hc6 hr6)
    have H56 := Aside0.mk (And.intro H5.out.1 (Kd.C_below H5.out.2 hb))
    clear hb hc6 hr6 HL5 H5
    simp only at H6 H56 ⊢
    obtain ⟨k60, k61⟩ := HL6.out.cells
    have he6 : ∀ W, Below w6.heap.size w6 W → Calls Tryz.prog 14 #[.slice A5 q1.length c5, .slice A6 q1.length c6] W (fun e w' => e = .returned (.bool true) ∧ Drawn0 W w') := fun W hW => eqs_calls A5 c5 A6 c6 q1 W (Kd.C_below H56.out.2 hW) H56.out.1 (Kd.C_below H6.out.2 hW) H6.out.1 HQL.out
    have HE6 := Aside0.mk he6
    clear he6
    have hv7 : ∀ W, Below w6.heap.size w6 W → Calls Tryz.prog 15 #[.agg #[.int .i64 n, .slice A cl.length c]] W (fun e w' => e = .returned (.bool vb) ∧ Below W.heap.size W w') := fun W hW => by rw [HVB.out]; exact Valid_calls n A c cl W (Kd.C_below HR.out (below_step HL6.out.below hW)) HC.out HF.out
    have HV7 := Aside0.mk hv7
    clear hv7
    have hv8 : ∀ W, Below w6.heap.size w6 W → Calls Tryz.prog 16 #[.agg #[.int .i64 n, .slice A cl.length c]] W (fun e w' => e = .returned (.bool vb) ∧ Below W.heap.size W w') := fun W hW => by rw [HVB.out]; exact rvalid_calls n A c cl W (Kd.C_below HR.out (below_step HL6.out.below hW)) HC.out HF.out
    have HV8 := Aside0.mk hv8
    clear hv8
    have hh9 : ∀ W, Below w6.heap.size w6 W → Calls Tryz.prog 17 #[.agg #[.int .i64 n, .slice A cl.length c], .slice A2 m.length c2] W (fun e w' => e = .returned (.bool hb2) ∧ Below W.heap.size W w') := fun W hW => by rw [HHB.out]; exact Holds_calls n A c cl A2 c2 m W (Kd.C_below HR.out (below_step HL6.out.below hW)) HC.out HF.out (Kd.C_below HR2.out (below_step HL6.out.below hW)) (by have := H3.out; omega)
    have HH9 := Aside0.mk hh9
    clear hh9
    have hh10 : ∀ W, Below w6.heap.size w6 W → Calls Tryz.prog 18 #[.agg #[.int .i64 n, .slice A cl.length c], .slice A2 m.length c2] W (fun e w' => e = .returned (.bool hb2) ∧ Below W.heap.size W w') := fun W hW => by rw [HHB.out]; exact rholds_calls n A c cl A2 c2 m W (Kd.C_below HR.out (below_step HL6.out.below hW)) HC.out HF.out (Kd.C_below HR2.out (below_step HL6.out.below hW)) HC2.out (by have := H3.out; omega)
    have HH10 := Aside0.mk hh10
    clear hh10
    have hl11 : ∀ W, Calls Tryz.prog 19 #[.int .i64 x] W (fun e w' => e = .returned (.int .i64 li) ∧ w' = W) := fun W => by rw [HLI.out]; exact lit_calls x W
    have HL11 := Aside0.mk hl11
    clear hl11
    have hl12 : ∀ W, Calls Tryz.prog 20 #[.int .i64 x] W (fun e w' => e = .returned (.int .i64 li) ∧ Drawn0 W w') := fun W => by rw [HLI.out]; exact assessorref26_Literal.calls x _ W (rlit_f x)
    have HL12 := Aside0.mk hl12
    clear hl12
    go_wp2
    refine start_ (n := 32) (S := fun W' => W'.cell? ⟨g2, 0, none⟩ = some (.int .i64 n) ∧ W'.cell? ⟨g2, 1, none⟩ = some (.slice A cl.length c)) (ds := []) #[false, false, false, false, false, false, false, false, false, false, false, false, false, false, false, false, false, false, false, false, false, false, false, false, false, false, false, false, false, false, false, false] (by kernel_rfl) rfl rfl (⟨k60, k61⟩) (fun hHeld => ?_)
    refine pure_ (i := 0) (N := some 46) (v := ?_) (a' := ?_) #[true, false, false, false, false, false, false, false, false, false, false, false, false, false, false, false, false, false, false, false, false, false, false, false, false, false, false, false, false, false, false, false] rfl rfl (by kernel_rfl) (fun _ _ _ h => h) (Or.inl ⟨by rfl, ?_⟩) ?_ ?_
    rotate_left
    · intro w'
      go_simp
      with_reducible rfl
    rotate_left
    · simp only [Act.put, sA, sZ, sS, i64_w]
      rfl
    refine pure_ (i := 1) (N := some 47) (v := ?_) (a' := ?_) #[true, true, false, false, false, false, false, false, false, false, false, false, false, false, false, false, false, false, false, false, false, false, false, false, false, false, false, false, false, false, false, false] rfl rfl (by kernel_rfl) (fun _ _ _ h => h) (Or.inl ⟨by rfl, ?_⟩) ?_ ?_
    rotate_left
    · intro w'
      go_simp
      with_reducible rfl
    rotate_left
    · simp only [Act.put, sA, sZ, sS, i64_w]
      rfl
    refine one_ (i := 2) (N := some 48) #[true, true, true, false, false, false, false, false, false, false, false, false, false, false, false, false, false, false, false, false, false, false, false, false, false, false, false, false, false, false, false, false] rfl rfl (by kernel_rfl) (by decide) (fun K hK => ?_)
    refine call_ 14 #[.slice A5 q1.length c5, .slice A6 q1.length c6] (by rfl) rfl (by go_simp; try rfl) ?_
    refine (HE6.out w6.drew (below_drewN w6 1)).mono ?_
    rintro e w7 ⟨rfl, hd⟩
    have HBw7 := Aside0.mk (below_step (below_drewN w6 1) hd.below)
    have HLw7 := Aside0.mk (HL6.out.later HBw7.out)
    have q0w7 := HLw7.out.cells.1
    have q1w7 := HLw7.out.cells.2
    clear hd
    refine ⟨_, rfl, ?_⟩
    refine hK.out _ _ ⟨q0w7, q1w7⟩ (fun hHeld => ?_)
    clear hK K
    refine norm_ (a' := ?_) ?_ ?_
    rotate_left
    · show Act.put _ (some 48) _ = _
      simp only [Act.put, sA, sZ, sS, i64_w]
      rfl
    refine pure_ (i := 3) (N := some 49) (v := ?_) (a' := ?_) #[true, true, true, true, false, false, false, false, false, false, false, false, false, false, false, false, false, false, false, false, false, false, false, false, false, false, false, false, false, false, false, false] rfl rfl (by kernel_rfl) (fun _ _ _ h => h) (Or.inl ⟨by rfl, ?_⟩) ?_ ?_
    rotate_left
    · intro w'
      go_simp
      with_reducible rfl
    rotate_left
    · simp only [Act.put, sA, sZ, sS, i64_w]
      rfl
    refine pure_ (i := 4) (N := some 50) (v := ?_) (a' := ?_) #[true, true, true, true, true, false, false, false, false, false, false, false, false, false, false, false, false, false, false, false, false, false, false, false, false, false, false, false, false, false, false, false] rfl rfl (by kernel_rfl) (fun _ _ _ h => h) (Or.inl ⟨by rfl, ?_⟩) ?_ ?_
    rotate_left
    · intro w'
      go_simp
      with_reducible rfl
    rotate_left
    · simp only [Act.put, sA, sZ, sS, i64_w]
      rfl
    refine pure_ (i := 5) (N := some 51) (v := ?_) (a' := ?_) #[true, true, true, true, true, true, false, false, false, false, false, false, false, false, false, false, false, false, false, false, false, false, false, false, false, false, false, false, false, false, false, false] rfl rfl (by kernel_rfl) (fun _ _ _ h => h) (Or.inl ⟨by rfl, ?_⟩) ?_ ?_
    rotate_left
    · intro w'
      go_simp
      with_reducible rfl
    rotate_left
    · simp only [Act.put, sA, sZ, sS, i64_w]
      rfl
    refine pure_ (i := 6) (N := some 52) (v := ?_) (a' := ?_) #[true, true, true, true, true, true, true, false, false, false, false, false, false, false, false, false, false, false, false, false, false, false, false, false, false, false, false, false, false, false, false, false] rfl rfl (by kernel_rfl) (fun _ _ _ h => h) (Or.inl ⟨by rfl, ?_⟩) ?_ ?_
    rotate_left
    · intro w'
      go_simp
      with_reducible rfl
    rotate_left
    · simp only [Act.put, sA, sZ, sS, i64_w]
      rfl
    refine pure_ (i := 7) (N := some 53) (v := ?_) (a' := ?_) #[true, true, true, true, true, true, true, true, false, false, false, false, false, false, false, false, false, false, false, false, false, false, false, false, false, false, false, false, false, false, false, false] rfl rfl (by kernel_rfl) (fun _ _ _ h => h) (Or.inl ⟨by rfl, ?_⟩) ?_ ?_
    rotate_left
    · intro w'
      go_simp
      with_reducible rfl
    rotate_left
    · simp only [Act.put, sA, sZ, sS, i64_w]
      rfl
    refine pure_ (i := 8) (N := some 54) (v := ?_) (a' := ?_) #[true, true, true, true, true, true, true, true, true, false, false, false, false, false, false, false, false, false, false, false, false, false, false, false, false, false, false, false, false, false, false, false] rfl rfl (by kernel_rfl) (fun _ _ _ h => h) (Or.inl ⟨by rfl, ?_⟩) ?_ ?_
    rotate_left
    · intro w'
      go_simp
      with_reducible rfl
    rotate_left
    · simp only [Act.put, sA, sZ, sS, i64_w]
      rfl
    refine take_ (i := 9) (N := some 55) (v := ?_) (a' := ?_) #[true, true, true, true, true, true, true, true, true, true, false, false, false, false, false, false, false, false, false, false, false, false, false, false, false, false, false, false, false, false, false, false] rfl rfl (by kernel_rfl) (fun _ _ _ h => h) (Or.inl ⟨by rfl, ?_⟩) hHeld ?_ ?_
    rotate_left
    · rintro w' ⟨s0_, s1_⟩
      go_simp
      with_reducible rfl
    rotate_left
    · simp only [Act.put, sA, sZ, sS, i64_w]
      rfl
    refine take_ (i := 11) (N := some 57) (v := ?_) (a' := ?_) #[true, true, true, true, true, true, true, true, true, true, false, true, false, false, false, false, false, false, false, false, false, false, false, false, false, false, false, false, false, false, false, false] rfl rfl (by kernel_rfl) (fun _ _ _ h => h) (Or.inl ⟨by rfl, ?_⟩) hHeld ?_ ?_
    rotate_left
    · rintro w' ⟨s0_, s1_⟩
      go_simp
      with_reducible rfl
    rotate_left
    · simp only [Act.put, sA, sZ, sS, i64_w]
      rfl
    refine one_ (i := 10) (N := some 56) #[true, true, true, true, true, true, true, true, true, true, true, true, false, false, false, false, false, false, false, false, false, false, false, false, false, false, false, false, false, false, false, false] rfl rfl (by kernel_rfl) (by decide) (fun K hK => ?_)
    refine call_ 15 #[.agg #[.int .i64 n, .slice A cl.length c]] (by rfl) rfl (by go_simp; try rfl) ?_
    refine (HV7.out w7 HBw7.out).mono ?_
    rintro e w8 ⟨rfl, hb⟩
    have HBw8 := Aside0.mk (below_step HBw7.out hb)
    have HLw8 := Aside0.mk (HL6.out.later HBw8.out)
    have q0w8 := HLw8.out.cells.1
    have q1w8 := HLw8.out.cells.2
    clear hb
    refine ⟨_, rfl, ?_⟩
    refine hK.out _ _ ⟨q0w8, q1w8⟩ (fun hHeld => ?_)
    clear hK K
    refine norm_ (a' := ?_) ?_ ?_
    rotate_left
    · show Act.put _ (some 56) _ = _
      simp only [Act.put, sA, sZ, sS, i64_w]
      rfl
    refine one_ (i := 12) (N := some 58) #[true, true, true, true, true, true, true, true, true, true, true, true, true, false, false, false, false, false, false, false, false, false, false, false, false, false, false, false, false, false, false, false] rfl rfl (by kernel_rfl) (by decide) (fun K hK => ?_)
    refine call_ 16 #[.agg #[.int .i64 n, .slice A cl.length c]] (by rfl) rfl (by go_simp; try rfl) ?_
    refine (HV8.out w8 HBw8.out).mono ?_
    rintro e w9 ⟨rfl, hb⟩
    have HBw9 := Aside0.mk (below_step HBw8.out hb)
    have HLw9 := Aside0.mk (HL6.out.later HBw9.out)
    have q0w9 := HLw9.out.cells.1
    have q1w9 := HLw9.out.cells.2
    clear hb
    refine ⟨_, rfl, ?_⟩
    refine hK.out _ _ ⟨q0w9, q1w9⟩ (fun hHeld => ?_)
    clear hK K
    refine norm_ (a' := ?_) ?_ ?_
    rotate_left
    · show Act.put _ (some 58) _ = _
      simp only [Act.put, sA, sZ, sS, i64_w]
      rfl
    refine pure_ (i := 13) (N := some 59) (v := ?_) (a' := ?_) #[true, true, true, true, true, true, true, true, true, true, true, true, true, true, false, false, false, false, false, false, false, false, false, false, false, false, false, false, false, false, false, false] rfl rfl (by kernel_rfl) (fun _ _ _ h => h) (Or.inl ⟨by rfl, ?_⟩) ?_ ?_
    rotate_left
    · intro w'
      go_simp
      with_reducible rfl
    rotate_left
    · simp only [Act.put, sA, sZ, sS, i64_w]
      rfl
    refine pure_ (i := 14) (N := some 60) (v := ?_) (a' := ?_) #[true, true, true, true, true, true, true, true, true, true, true, true, true, true, true, false, false, false, false, false, false, false, false, false, false, false, false, false, false, false, false, false] rfl rfl (by kernel_rfl) (fun _ _ _ h => h) (Or.inl ⟨by rfl, ?_⟩) ?_ ?_
    rotate_left
    · intro w'
      go_simp
      with_reducible rfl
    rotate_left
    · simp only [Act.put, sA, sZ, sS, i64_w]
      rfl
    refine pure_ (i := 15) (N := some 61) (v := ?_) (a' := ?_) #[true, true, true, true, true, true, true, true, true, true, true, true, true, true, true, true, false, false, false, false, false, false, false, false, false, false, false, false, false, false, false, false] rfl rfl (by kernel_rfl) (fun _ _ _ h => h) (Or.inl ⟨by rfl, ?_⟩) ?_ ?_
    rotate_left
    · intro w'
      go_simp
      with_reducible rfl
    rotate_left
    · simp only [Act.put, sA, sZ, sS, i64_w]
      rfl
    refine take_ (i := 16) (N := some 62) (v := ?_) (a' := ?_) #[true, true, true, true, true, true, true, true, true, true, true, true, true, true, true, true, true, false, false, false, false, false, false, false, false, false, false, false, false, false, false, false] rfl rfl (by kernel_rfl) (fun _ _ _ h => h) (Or.inl ⟨by rfl, ?_⟩) hHeld ?_ ?_
    rotate_left
    · rintro w' ⟨s0_, s1_⟩
      go_simp
      with_reducible rfl
    rotate_left
    · simp only [Act.put, sA, sZ, sS, i64_w]
      rfl
    refine pure_ (i := 17) (N := some 63) (v := ?_) (a' := ?_) #[true, true, true, true, true, true, true, true, true, true, true, true, true, true, true, true, true, true, false, false, false, false, false, false, false, false, false, false, false, false, false, false] rfl rfl (by kernel_rfl) (fun _ _ _ h => h) (Or.inl ⟨by rfl, ?_⟩) ?_ ?_
    rotate_left
    · intro w'
      go_simp
      with_reducible rfl
    rotate_left
    · simp only [Act.put, sA, sZ, sS, i64_w]
      rfl
    refine take_ (i := 19) (N := some 65) (v := ?_) (a' := ?_) #[true, true, true, true, true, true, true, true, true, true, true, true, true, true, true, true, true, true, false, true, false, false, false, false, false, false, false, false, false, false, false, false] rfl rfl (by kernel_rfl) (fun _ _ _ h => h) (Or.inl ⟨by rfl, ?_⟩) hHeld ?_ ?_
    rotate_left
    · rintro w' ⟨s0_, s1_⟩
      go_simp
      with_reducible rfl
    rotate_left
    · simp only [Act.put, sA, sZ, sS, i64_w]
      rfl
    refine pure_ (i := 20) (N := some 66) (v := ?_) (a' := ?_) #[true, true, true, true, true, true, true, true, true, true, true, true, true, true, true, true, true, true, false, true, true, false, false, false, false, false, false, false, false, false, false, false] rfl rfl (by kernel_rfl) (fun _ _ _ h => h) (Or.inl ⟨by rfl, ?_⟩) ?_ ?_
    rotate_left
    · intro w'
      go_simp
      with_reducible rfl
    rotate_left
    · simp only [Act.put, sA, sZ, sS, i64_w]
      rfl
    refine one_ (i := 18) (N := some 64) #[true, true, true, true, true, true, true, true, true, true, true, true, true, true, true, true, true, true, true, true, true, false, false, false, false, false, false, false, false, false, false, false] rfl rfl (by kernel_rfl) (by decide) (fun K hK => ?_)
    refine call_ 17 #[.agg #[.int .i64 n, .slice A cl.length c], .slice A2 m.length c2] (by rfl) rfl (by go_simp; try rfl) ?_
    refine (HH9.out w9 HBw9.out).mono ?_
    rintro e w10 ⟨rfl, hb⟩
    have HBw10 := Aside0.mk (below_step HBw9.out hb)
    have HLw10 := Aside0.mk (HL6.out.later HBw10.out)
    have q0w10 := HLw10.out.cells.1
    have q1w10 := HLw10.out.cells.2
    clear hb
    refine ⟨_, rfl, ?_⟩
    refine hK.out _ _ ⟨q0w10, q1w10⟩ (fun hHeld => ?_)
    clear hK K
    refine norm_ (a' := ?_) ?_ ?_
    rotate_left
    · show Act.put _ (some 64) _ = _
      simp only [Act.put, sA, sZ, sS, i64_w]
      rfl
    refine one_ (i := 21) (N := some 67) #[true, true, true, true, true, true, true, true, true, true, true, true, true, true, true, true, true, true, true, true, true, true, false, false, false, false, false, false, false, false, false, false] rfl rfl (by kernel_rfl) (by decide) (fun K hK => ?_)
    refine call_ 18 #[.agg #[.int .i64 n, .slice A cl.length c], .slice A2 m.length c2] (by rfl) rfl (by go_simp; try rfl) ?_
    refine (HH10.out w10 HBw10.out).mono ?_
    rintro e w11 ⟨rfl, hb⟩
    have HBw11 := Aside0.mk (below_step HBw10.out hb)
    have HLw11 := Aside0.mk (HL6.out.later HBw11.out)
    have q0w11 := HLw11.out.cells.1
    have q1w11 := HLw11.out.cells.2
    clear hb
    refine ⟨_, rfl, ?_⟩
    refine hK.out _ _ ⟨q0w11, q1w11⟩ (fun hHeld => ?_)
    clear hK K
    refine norm_ (a' := ?_) ?_ ?_
    rotate_left
    · show Act.put _ (some 67) _ = _
      simp only [Act.put, sA, sZ, sS, i64_w]
      rfl
    refine pure_ (i := 22) (N := some 68) (v := ?_) (a' := ?_) #[true, true, true, true, true, true, true, true, true, true, true, true, true, true, true, true, true, true, true, true, true, true, true, false, false, false, false, false, false, false, false, false] rfl rfl (by kernel_rfl) (fun _ _ _ h => h) (Or.inl ⟨by rfl, ?_⟩) ?_ ?_
    rotate_left
    · intro w'
      go_simp
      with_reducible rfl
    rotate_left
    · simp only [Act.put, sA, sZ, sS, i64_w]
      rfl
    refine pure_ (i := 23) (N := some 69) (v := ?_) (a' := ?_) #[true, true, true, true, true, true, true, true, true, true, true, true, true, true, true, true, true, true, true, true, true, true, true, true, false, false, false, false, false, false, false, false] rfl rfl (by kernel_rfl) (fun _ _ _ h => h) (Or.inl ⟨by rfl, ?_⟩) ?_ ?_
    rotate_left
    · intro w'
      go_simp
      with_reducible rfl
    rotate_left
    · simp only [Act.put, sA, sZ, sS, i64_w]
      rfl
    refine pure_ (i := 24) (N := some 70) (v := ?_) (a' := ?_) #[true, true, true, true, true, true, true, true, true, true, true, true, true, true, true, true, true, true, true, true, true, true, true, true, true, false, false, false, false, false, false, false] rfl rfl (by kernel_rfl) (fun _ _ _ h => h) (Or.inl ⟨by rfl, ?_⟩) ?_ ?_
    rotate_left
    · intro w'
      go_simp
      with_reducible rfl
    rotate_left
    · simp only [Act.put, sA, sZ, sS, i64_w]
      rfl
    refine pure_ (i := 25) (N := some 71) (v := ?_) (a' := ?_) #[true, true, true, true, true, true, true, true, true, true, true, true, true, true, true, true, true, true, true, true, true, true, true, true, true, true, false, false, false, false, false, false] rfl rfl (by kernel_rfl) (fun _ _ _ h => h) (Or.inl ⟨by rfl, ?_⟩) ?_ ?_
    rotate_left
    · intro w'
      go_simp
      with_reducible rfl
    rotate_left
    · simp only [Act.put, sA, sZ, sS, i64_w]
      rfl
    refine pure_ (i := 27) (N := some 73) (v := ?_) (a' := ?_) #[true, true, true, true, true, true, true, true, true, true, true, true, true, true, true, true, true, true, true, true, true, true, true, true, true, true, false, true, false, false, false, false] rfl rfl (by kernel_rfl) (fun _ _ _ h => h) (Or.inl ⟨by rfl, ?_⟩) ?_ ?_
    rotate_left
    · intro w'
      go_simp
      with_reducible rfl
    rotate_left
    · simp only [Act.put, sA, sZ, sS, i64_w]
      rfl
    refine one_ (i := 26) (N := some 72) #[true, true, true, true, true, true, true, true, true, true, true, true, true, true, true, true, true, true, true, true, true, true, true, true, true, true, true, true, false, false, false, false] rfl rfl (by kernel_rfl) (by decide) (fun K hK => ?_)
    refine call_ 19 #[.int .i64 x] (by rfl) rfl (by go_simp; try rfl) ?_
    refine (HL11.out w11).mono ?_
    rintro e w12 ⟨rfl, e12⟩
    subst e12
    refine ⟨_, rfl, ?_⟩
    refine hK.out _ _ ⟨q0w11, q1w11⟩ (fun hHeld => ?_)
    clear hK K
    refine norm_ (a' := ?_) ?_ ?_
    rotate_left
    · show Act.put _ (some 72) _ = _
      simp only [Act.put, sA, sZ, sS, i64_w]
      rfl
    refine one_ (i := 28) (N := some 74) #[true, true, true, true, true, true, true, true, true, true, true, true, true, true, true, true, true, true, true, true, true, true, true, true, true, true, true, true, true, false, false, false] rfl rfl (by kernel_rfl) (by decide) (fun K hK => ?_)
    refine call_ 20 #[.int .i64 x] (by rfl) rfl (by go_simp; try rfl) ?_
    refine (HL12.out w12).mono ?_
    rintro e w13 ⟨rfl, hd⟩
    have HBw13 := Aside0.mk (below_step HBw11.out hd.below)
    have HLw13 := Aside0.mk (HL6.out.later HBw13.out)
    have q0w13 := HLw13.out.cells.1
    have q1w13 := HLw13.out.cells.2
    clear hd
    refine ⟨_, rfl, ?_⟩
    refine hK.out _ _ ⟨q0w13, q1w13⟩ (fun hHeld => ?_)
    clear hK K
    refine norm_ (a' := ?_) ?_ ?_
    rotate_left
    · show Act.put _ (some 74) _ = _
      simp only [Act.put, sA, sZ, sS, i64_w]
      rfl
    refine pure_ (i := 29) (N := some 75) (v := ?_) (a' := ?_) #[true, true, true, true, true, true, true, true, true, true, true, true, true, true, true, true, true, true, true, true, true, true, true, true, true, true, true, true, true, true, false, false] rfl rfl (by kernel_rfl) (fun _ _ _ h => h) (Or.inl ⟨by rfl, ?_⟩) ?_ ?_
    rotate_left
    · intro w'
      go_simp
      with_reducible rfl
    rotate_left
    · simp only [Act.put, sA, sZ, sS, i64_w]
      rfl
    refine pure_ (i := 30) (N := some 76) (v := ?_) (a' := ?_) #[true, true, true, true, true, true, true, true, true, true, true, true, true, true, true, true, true, true, true, true, true, true, true, true, true, true, true, true, true, true, true, false] rfl rfl (by kernel_rfl) (fun _ _ _ h => h) (Or.inl ⟨by rfl, ?_⟩) ?_ ?_
    rotate_left
    · intro w'
      go_simp
      with_reducible rfl
    rotate_left
    · simp only [Act.put, sA, sZ, sS, i64_w]
      rfl
    refine pure_ (i := 31) (N := some 8) (v := ?_) (a' := ?_) #[true, true, true, true, true, true, true, true, true, true, true, true, true, true, true, true, true, true, true, true, true, true, true, true, true, true, true, true, true, true, true, true] rfl rfl (by kernel_rfl) (fun _ _ _ h => h) (Or.inl ⟨by rfl, ?_⟩) ?_ ?_
    rotate_left
    · intro w'
      go_simp
      with_reducible rfl
    rotate_left
    · simp only [Act.put, sA, sZ, sS, i64_w]
      rfl
    refine done_ (by kernel_rfl) ?_
    go_wp2
    go_ret
    exact ⟨rfl, below_step HL6.out.below HBw13.out⟩
end Go.Proofs.YteaohgebocbehaaGreatDoor.Hand
end
