/- Texts of this claim, one behind the other; each begins with what it proves. Conditions as written in each theorem. -/
import Derived.Test.YteaohgebocbehaaGreatDoorHC0
import Derived.Test.YteaohgebocbehaaGreatDoorHC1
import Derived.Test.YteaohgebocbehaaGreatDoorXAx7
import Derived.Test.YteaohgebocbehaaGreatDoorXAx16
import Derived.Outline
section
/- What CnfCircuits takes of other texts of this seat: normal forms, Not, Nodes, Translate's call, the circuit's box. Conditions as written in each. -/
set_option linter.unusedVariables false
set_option linter.unusedSimpArgs false
namespace Go.Proofs.YteaohgebocbehaaGreatDoor.Plain
open Go.RowKit Go.Proofs.YteaohgebocbehaaGreatDoor.XA Go.Proofs.YteaohgebocbehaaGreatDoorW.PrintWords
/-- Literals laid in one after the other. -/
def nrmR : List Int → List Int → List Int × Bool
  | out, [] => (out, true)
  | out, x :: t => if inR x then (match ins x out with | some r => nrmR r t | none => ([], false)) else ([], false)
theorem nrmR_eq : ∀ (l out : List Int), nrmR out l = if l.all inR then (match l.foldl (fun (o : Option (List Int)) x => o.bind (ins x)) (some out) with | some r => (r, true) | none => ([], false)) else ([], false)
  | [], out => by simp [nrmR]
  | x :: t, out => by
    simp only [nrmR, List.all_cons, List.foldl_cons, Option.bind_some]
    by_cases hx : inR x = true
    · simp only [hx, if_true, Bool.true_and]
      cases hi : ins x out with
      | some r => simp only; rw [nrmR_eq t r]
      | none =>
        simp only
        rw [foldl_none]
        split <;> rfl
    · rw [if_neg hx]
      simp [hx]
theorem nrm_R (l : List Int) : nrm l = nrmR [] l := by
  rw [nrmR_eq]
  rfl
theorem ins_len (x : Int) : ∀ (l r : List Int), ins x l = some r → r.length ≤ l.length + 1
  | [], r, h => by simp [ins] at h; subst h; simp
  | y :: t, r, h => by
    unfold ins at h
    split at h
    · obtain ⟨q, hq, rfl⟩ := Option.map_eq_some_iff.1 h
      have := ins_len x t q hq
      simp; omega
    · split at h
      · cases h; simp
      · split at h
        · cases h
        · cases h; simp
theorem inR_iff (x : Int) : inR x = true ↔ x ≠ 0 ∧ -1073741824 ≤ x ∧ x ≤ 1073741824 := by simp [inR]
theorem nat_xor_one (m : Nat) : m ^^^ 1 = if m % 2 = 0 then m + 1 else m - 1 := by
  have h1 : (m ^^^ 1) / 2 = m / 2 := by rw [Nat.xor_div_two]; simp
  have h2 : (m ^^^ 1) % 2 = (m + 1) % 2 := by
    have h := Nat.xor_mod_two_pow (a := m) (b := 1) (n := 1)
    simp only [Nat.pow_one] at h
    rw [h]
    rcases Nat.mod_two_eq_zero_or_one m with e | e <;> (rw [e]; simp; omega)
  split <;> omega
theorem notI_eq {a : Int} (h0 : 0 ≤ a) (h1 : a ≤ 4611686018427387904) : notI a = if a % 2 = 0 then a + 1 else a - 1 := by
  obtain ⟨m, rfl⟩ : ∃ m : Nat, a = m := ⟨a.toNat, by omega⟩
  unfold notI
  show IntKind.i64.wrap ((BitVec.ofInt 64 (m : Int) ^^^ BitVec.ofInt 64 1).toNat : Int) = _
  have e1 : (BitVec.ofInt 64 (m : Int)).toNat = m := by
    rw [BitVec.toNat_ofInt]
    omega
  have e2 : (BitVec.ofInt 64 1).toNat = 1 := by decide
  rw [BitVec.toNat_xor, e1, e2, nat_xor_one]
  have hw : ∀ y : Int, 0 ≤ y → y ≤ 9223372036854775807 → IntKind.i64.wrap y = y := fun y h1 h2 => IntWalk.i64_in _ (by omega)
  by_cases h : m % 2 = 0
  · rw [if_pos h, if_pos (by omega), hw _ (by omega) (by omega)]
    omega
  · rw [if_neg h, if_neg (by omega), hw _ (by omega) (by omega)]
    omega
theorem rnodes_f {inp : Int} {gs : List S62} (h0 : -1000000 ≤ inp) (h1 : inp ≤ 1000000) (hl : gs.length ≤ 1000000) : assessorref24_Nodes.f inp gs = some (1 + inp + gs.length) := by
  unfold assessorref24_Nodes.f
  rw [w64 (x := 1 + inp) (by omega) (by omega), w64 (by omega) (by omega)]
theorem addC_one {x n : Int} (h1 : 1 ≤ x.natAbs) (h2 : (x.natAbs : Int) ≤ n) (hn : n ≤ 1048576) : addC [x] = [x] := by
  have hin : inR x = true := (inR_iff x).2 (by omega)
  unfold addC
  rw [nrm_R]
  simp [nrmR, hin, ins]
end Go.Proofs.YteaohgebocbehaaGreatDoor.Plain
namespace Go.Proofs.YteaohgebocbehaaGreatDoor.Hand
open Go.RowKit Go.Lib Go.Shelf Go.Proofs.YteaohgebocbehaaGreatDoorW Go.Proofs.YteaohgebocbehaaGreatDoorW.PrintWords Go.Proofs.YteaohgebocbehaaGreatDoorW.PrintLast Go.Proofs.YteaohgebocbehaaGreatDoorW.PrintMore Go.Proofs.YteaohgebocbehaaGreatDoor.Plain Go.Proofs.YteaohgebocbehaaGreatDoor.XA
theorem tr2_calls (inp : Int) (A : Option Addr) (c : Nat) (gs : List S62) (Al : Option Addr) (cl : Nat) (l : List Int) (w : World) (hr : k62.C w A gs.length gs) (hc : gs.length ≤ c) (hf : gs.length ≤ 1000000) (hrl : kI.C w Al l.length l) (hll : l.length ≤ 1000000) (r : Int × List (List Int) × Int) (hres : r = transC inp gs l) :
    Calls Tryz.prog 21 #[.agg #[.int .i64 inp, .slice A gs.length c], .slice Al l.length cl] w fun e w' => ∃ A' c', e = .returned (.tuple #[.agg #[.int .i64 r.1, .slice A' r.2.1.length c'], .int .i64 r.2.2]) ∧ r.2.1.length ≤ c' ∧ kL.C w' A' r.2.1.length r.2.1 ∧ Below w.heap.size w w' := by
  subst hres
  refine (Trans_calls inp A c gs Al cl l w hr hc (by omega) hrl (by omega)).mono ?_
  rintro e w' ⟨v, rfl, hN, hb⟩
  obtain ⟨A', c', rfl⟩ := Kd.N_slice hN
  exact ⟨A', c', rfl, (Kd.N_reads' hN).2.1, (Kd.N_reads' hN).2.2, hb⟩
theorem trF_fine {inp : Int} {gs : List S62} {l : List Int} (hf : gs.length ≤ 1000) (hll : l.length ≤ 1000) (h : ∀ c ∈ (transC inp gs l).2.1, c.length ≤ 17592186044416) : Fine (transC inp gs l).2.1 := by
  refine ⟨?_, h⟩
  unfold transC
  split
  · simp
  · split
    · simp
    · split
      · simp
      · simp [trF, trGates_length]; omega
theorem addC_len (l : List Int) (hl : l.length ≤ 1000) : (addC l).length ≤ 17592186044416 := by
  unfold addC
  rw [nrm_R]
  have key : ∀ (l out : List Int), (nrmR out l).1.length ≤ out.length + l.length := by
    intro l
    induction l with
    | nil => intro out; simp [nrmR]
    | cons x t ih =>
      intro out
      simp only [nrmR]
      split
      · split
        · rename_i r hr
          have h1 := ins_len _ _ _ hr
          have h2 := ih r
          simp only [List.length_cons]
          omega
        · simp
      · simp
  have := key l []
  simp only [List.length_nil] at this
  omega
theorem trGates_len : ∀ (gs : List S62) (v : Int), ∀ c ∈ trGates v gs, c.length ≤ 17592186044416
  | [], v, c, hc => by cases hc
  | x :: t, v, c, hc => by
    simp only [trGates, List.cons_append, List.nil_append, List.mem_cons] at hc
    rcases hc with rfl | rfl | rfl | hc
    · exact addC_len _ (by simp)
    · exact addC_len _ (by simp)
    · exact addC_len _ (by simp)
    · exact trGates_len t _ c hc
theorem transC_fine (inp : Int) (gs : List S62) (l : List Int) (hf : gs.length ≤ 1000) (hll : l.length ≤ 1000) : Fine (transC inp gs l).2.1 := by
  refine trF_fine hf hll fun c hc => ?_
  unfold transC at hc
  split at hc
  · cases hc
  · split at hc
    · cases hc
    · split at hc
      · cases hc
      · simp only [trF, List.mem_append, List.mem_singleton, List.mem_map] at hc
        rcases hc with (rfl | hc) | ⟨x, _, rfl⟩
        · simp
        · exact trGates_len _ _ c hc
        · exact addC_len _ (by simp)
/-- The circuit's box, the world since w. -/
structure GSt (w W : World) (g2 : Nat) (n : Int) (A : Option Addr) (m c : Nat) : Prop where
  b : W.heap[g2]? = some (.cells #[.int .i64 n, .slice A m c] 38 (0, 0))
  below : Below w.heap.size w W
theorem GSt.later {w W W' : World} {g2 : Nat} {n : Int} {A : Option Addr} {m c : Nat} (h : GSt w W g2 n A m c) (hb : Below W.heap.size W W') : GSt w W' g2 n A m c := ⟨blk_below h.b hb, below_step h.below hb⟩
theorem GSt.cells {w W : World} {g2 : Nat} {n : Int} {A : Option Addr} {m c : Nat} (h : GSt w W g2 n A m c) : W.cell? ⟨g2, 0, none⟩ = some (.int .i64 n) ∧ W.cell? ⟨g2, 1, none⟩ = some (.slice A m c) := ⟨(blk_cell h.b 0).trans rfl, (blk_cell h.b 1).trans rfl⟩
end Go.Proofs.YteaohgebocbehaaGreatDoor.Hand
end
section
/- Unit propagation as an inductive set, and that the plain steps of cnf.Propagate find just this set, or a clash in it. Conditions: the clauses and literals are of variables up to n. -/
set_option linter.unusedVariables false
set_option linter.unusedSimpArgs false
namespace Go.Proofs.YteaohgebocbehaaGreatDoor.Plain
open Go.RowKit Go.Proofs.YteaohgebocbehaaGreatDoorW.PrintWords
/-- What follows by unit propagation. -/
inductive UP (cl : List (List Int)) (st : List Int) : Int → Prop
  | start {l : Int} (h : l ∈ st) : UP cl st l
  | unit {c : List Int} {l : Int} (hc : c ∈ cl) (hl : l ∈ c) (h : ∀ x ∈ c, x ≠ l → UP cl st (-x)) : UP cl st l
def Clash (cl : List (List Int)) (st : List Int) : Prop := (∃ l, UP cl st l ∧ UP cl st (-l)) ∨ [] ∈ cl
/-- A list that holds what it starts from and is closed holds what follows. -/
theorem UP.closed {cl : List (List Int)} {st S : List Int} (h1 : ∀ l ∈ st, l ∈ S) (h2 : ∀ c ∈ cl, ∀ l ∈ c, (∀ x ∈ c, x ≠ l → -x ∈ S) → l ∈ S) {l : Int} (h : UP cl st l) : l ∈ S := by
  induction h with
  | start h => exact h1 _ h
  | unit hc hl _ ih => exact h2 _ hc _ hl ih
theorem UP.range {n : Int} {cl : List (List Int)} {st : List Int} (hcl : ∀ c ∈ cl, clauseOk n c = true) (hst : ∀ l ∈ st, startOk n l = true) {l : Int} (h : UP cl st l) : l ≠ 0 ∧ -n ≤ l ∧ l ≤ n := by
  cases h with
  | start h => simpa [startOk] using hst _ h
  | unit hc hl _ => exact ((clauseOk_iff n _).1 (hcl _ hc)).2 _ hl
theorem clash_of_excluded {cl : List (List Int)} {st c : List Int} (hc : c ∈ cl) (h : ∀ x ∈ c, UP cl st (-x)) : Clash cl st := by
  cases c with
  | nil => exact Or.inr hc
  | cons x t => exact Or.inl ⟨x, UP.unit hc List.mem_cons_self (fun y hy _ => h y hy), h x List.mem_cons_self⟩
/-- The literals of a clause that P does not exclude. -/
def free (P c : List Int) : List Int := c.filter fun x => !(P.contains (-x))
theorem mem_free {P c : List Int} {x : Int} : x ∈ free P c ↔ x ∈ c ∧ -x ∉ P := by simp [free]
theorem free_nil (c : List Int) : free [] c = c := by simp [free]
theorem free_same {P c : List Int} {p : Int} (h : -p ∉ c) : free (P ++ [p]) c = free P c := by
  unfold free
  apply List.filter_congr
  intro x hx
  have hp : -x ≠ p := fun e => h (by rw [← e]; simpa using hx)
  simp [hp]
theorem free_less {P c : List Int} {p : Int} (hnd : c.Nodup) (hp : p ∉ P) (h : -p ∈ c) : (free (P ++ [p]) c).length + 1 = (free P c).length := by
  have e : free (P ++ [p]) c = (free P c).filter fun x => !(x == -p) := by
    unfold free
    rw [List.filter_filter]
    apply List.filter_congr
    intro x hx
    have hq : -x = p ↔ x = -p := by omega
    by_cases e : x = -p
    · simp [e, hq]
    · have e3 : ¬ -x = p := fun h => e (hq.1 h)
      simp [e, e3]
  have hm : -p ∈ free P c := mem_free.2 ⟨h, by simpa using hp⟩
  have hn : (free P c).Nodup := hnd.filter _
  have e2 : ((free P c).filter fun x => !(x == -p)) = (free P c).erase (-p) := by
    rw [hn.erase_eq_filter]
    apply List.filter_congr
    intro x hx
    rfl
  rw [e, e2, List.length_erase_of_mem hm]
  have := List.length_pos_of_mem hm
  omega
theorem clause_nodup {n : Int} {c : List Int} (h : clauseOk n c = true) : c.Nodup := by
  have h1 := ((clauseOk_iff n c).1 h).1
  unfold Inc at h1
  exact h1.imp fun h e => by rw [e] at h; omega
theorem rd_set {v : List Int} {j : Nat} {u : Int} (x : Nat) (hj : j < v.length) : rd (v.set j u) (x : Int) = if j = x then u else rd v (x : Int) := by
  unfold rd
  simp only [Int.toNat_natCast, List.getD_eq_getElem?_getD, List.getElem?_set]
  split
  · rename_i e
    subst e
    simp [hj]
  · rfl
/-- What holds of the set after each step: clause i has been told of the literals pr i; those that tr holds of have been looked at. -/
structure UInv (n : Int) (cl : List (List Int)) (st : List Int) (pr : Nat → List Int) (tr : Nat → Prop) (s : PS) : Prop where
  val : (s.value.length : Int) = n + 1
  v1 : ∀ l : Int, l ≠ 0 → -n ≤ l → l ≤ n → (l ∈ s.list ↔ rd s.value (l.natAbs : Int) = l)
  v2 : ∀ l : Int, l ≠ 0 → -n ≤ l → l ≤ n → rd s.value (l.natAbs : Int) = 0 ∨ rd s.value (l.natAbs : Int) = l ∨ rd s.value (l.natAbs : Int) = -l
  lits : ∀ l ∈ s.list, l ≠ 0 ∧ -n ≤ l ∧ l ≤ n
  nd : s.list.Nodup
  up : ∀ l ∈ s.list, UP cl st l
  fl : s.fails = true → Clash cl st
  lft : ∀ (i : Nat) (c : List Int), cl[i]? = some c → rd s.left (i : Int) = ((free (pr i) c).length : Int)
  sub : ∀ (i : Nat), ∀ l ∈ pr i, l ∈ s.list
  lkd : ∀ (i : Nat) (c : List Int), cl[i]? = some c → tr i → (free (pr i) c = [] → s.fails = true) ∧ ∀ y, free (pr i) c = [y] → s.fails = true ∨ y ∈ s.list ∨ -y ∈ s.list
variable {n : Int} {cl : List (List Int)} {st : List Int} {pr : Nat → List Int} {tr : Nat → Prop} {s : PS}
theorem UInv.fail (h : UInv n cl st pr tr s) (hc : Clash cl st) : UInv n cl st pr tr { s with fails := true } :=
  ⟨h.val, h.v1, h.v2, h.lits, h.nd, h.up, fun _ => hc, h.lft, h.sub, fun i c hi ht => ⟨fun _ => rfl, fun _ _ => Or.inl rfl⟩⟩
theorem UInv.add (h : UInv n cl st pr tr s) {l : Int} (h0 : l ≠ 0) (h1 : -n ≤ l) (h2 : l ≤ n) (hu : UP cl st l) : UInv n cl st pr tr (s.add l) ∧ ((s.add l).fails = true ∨ l ∈ (s.add l).list) := by
  have hv := h.val
  have hj : l.natAbs < s.value.length := by omega
  unfold PS.add
  split
  · rename_i hz
    have hnl : ∀ x : Int, x.natAbs = l.natAbs → x ∉ s.list := fun x hx hm => by
      have hr := h.lits x hm
      have := (h.v1 x hr.1 hr.2.1 hr.2.2).1 hm
      rw [hx, hz] at this
      exact hr.1 this.symm
    refine ⟨⟨by simpa using h.val, fun x x0 x1 x2 => ?_, fun x x0 x1 x2 => ?_, fun x hx => ?_, ?_, fun x hx => ?_, h.fl, h.lft, fun i x hx => List.mem_append_left _ (h.sub i x hx), fun i c hi ht => ?_⟩, Or.inr (by simp)⟩
    · simp only [List.mem_append, List.mem_singleton]
      rw [rd_set _ hj]
      split
      · rename_i e
        constructor
        · rintro (hm | rfl)
          · exact absurd hm (hnl x e.symm)
          · rfl
        · intro e2; exact Or.inr e2.symm
      · rename_i e
        rw [← h.v1 x x0 x1 x2]
        constructor
        · rintro (hm | rfl)
          · exact hm
          · exact absurd rfl e
        · exact Or.inl
    · rw [rd_set _ hj]
      split
      · rename_i e
        omega
      · exact h.v2 x x0 x1 x2
    · rcases List.mem_append.1 hx with hx | hx
      · exact h.lits x hx
      · rw [List.mem_singleton.1 hx]; exact ⟨h0, h1, h2⟩
    · simp only
      rw [List.nodup_append]
      refine ⟨h.nd, by simp, fun x hx y hy e => ?_⟩
      rw [List.mem_singleton.1 hy] at e
      exact hnl l rfl (e ▸ hx)
    · rcases List.mem_append.1 hx with hx | hx
      · exact h.up x hx
      · rw [List.mem_singleton.1 hx]; exact hu
    · obtain ⟨a, b⟩ := h.lkd i c hi ht
      exact ⟨a, fun y hy => by
        rcases b y hy with b | b | b
        · exact Or.inl b
        · exact Or.inr (Or.inl (List.mem_append_left _ b))
        · exact Or.inr (Or.inr (List.mem_append_left _ b))⟩
  · rename_i hz
    split
    · rename_i hn
      have hm : -l ∈ s.list := (h.v1 (-l) (by omega) (by omega) (by omega)).2 (by rw [Int.natAbs_neg]; exact hn)
      exact ⟨h.fail (Or.inl ⟨l, hu, h.up _ hm⟩), Or.inl rfl⟩
    · rename_i hn
      refine ⟨h, Or.inr ((h.v1 l h0 h1 h2).2 ?_)⟩
      rcases h.v2 l h0 h1 h2 with e | e | e
      · exact absurd e hz
      · exact e
      · exact absurd e hn
/-- A further clause has been looked at. -/
theorem UInv.tried (h : UInv n cl st pr tr s) {i : Nat} (hi : ∀ c, cl[i]? = some c → (free (pr i) c = [] → s.fails = true) ∧ ∀ y, free (pr i) c = [y] → s.fails = true ∨ y ∈ s.list ∨ -y ∈ s.list) : UInv n cl st pr (fun k => tr k ∨ k = i) s :=
  ⟨h.val, h.v1, h.v2, h.lits, h.nd, h.up, h.fl, h.lft, h.sub, fun k c hk ht => by
    rcases ht with ht | rfl
    · exact h.lkd k c hk ht
    · exact hi c hk⟩
theorem UInv.tryC (hcl : ∀ c ∈ cl, clauseOk n c = true) (h : UInv n cl st pr tr s) {i : Nat} (hi : i < cl.length) : UInv n cl st pr (fun k => tr k ∨ k = i) (s.tryC cl (i : Int)) := by
  obtain ⟨c, hc⟩ : ∃ c, cl[i]? = some c := ⟨_, List.getElem?_eq_getElem hi⟩
  have hmem : c ∈ cl := List.mem_of_getElem? hc
  have hl := h.lft i c hc
  have hck := (clauseOk_iff n c).1 (hcl c hmem)
  have hup : ∀ x ∈ c, -x ∈ pr i → UP cl st (-x) := fun x _ hx => h.up _ (h.sub i _ hx)
  have hex : ∀ x ∈ c, x ∉ free (pr i) c → -x ∈ pr i := fun x hx hn => by
    apply Classical.byContradiction
    intro h3
    exact hn (mem_free.2 ⟨hx, h3⟩)
  unfold PS.tryC
  split
  · rename_i h2
    unfold PS.look
    split
    · rename_i hz
      rw [hz] at hl
      have he : free (pr i) c = [] := List.eq_nil_of_length_eq_zero (by omega)
      exact (h.fail (clash_of_excluded hmem fun x hx => hup x hx (hex x hx (by rw [he]; simp)))).tried fun _ _ => ⟨fun _ => rfl, fun _ _ => Or.inl rfl⟩
    · rename_i hz
      split
      · rename_i ho
        rw [ho] at hl
        obtain ⟨y, hy⟩ : ∃ y, free (pr i) c = [y] := List.length_eq_one_iff.1 (by omega)
        have hym : y ∈ c ∧ -y ∉ pr i := mem_free.1 (by rw [hy]; simp)
        have hunit : UP cl st y := UP.unit hmem hym.1 fun x hx hne => hup x hx (hex x hx (by rw [hy]; simpa using hne))
        have hg : cl.getD (i : Int).toNat [] = c := by rw [Int.toNat_natCast, List.getD_eq_getElem?_getD, hc]; rfl
        rw [hg]
        cases hf : c.find? fun l => decide (rd s.value (l.natAbs : Int) ≠ -l) with
        | some l =>
          have hlc := List.mem_of_find?_eq_some hf
          have hlv : rd s.value (l.natAbs : Int) ≠ -l := by simpa using List.find?_some hf
          have hr := hck.2 l hlc
          have hnl : -l ∉ s.list := fun hm => hlv (by have := (h.v1 (-l) (by omega) (by omega) (by omega)).1 hm; rwa [Int.natAbs_neg] at this)
          have hly : l = y := by
            have : l ∈ free (pr i) c := mem_free.2 ⟨hlc, fun hm => hnl (h.sub i _ hm)⟩
            rw [hy] at this
            simpa using this
          subst hly
          obtain ⟨a, b⟩ := h.add hr.1 hr.2.1 hr.2.2 hunit
          refine a.tried fun c' hc' => ?_
          obtain rfl := Option.some.inj (hc.symm.trans hc')
          refine ⟨fun e => (by rw [hy] at e; cases e), fun z hz => ?_⟩
          rw [hy] at hz
          obtain rfl : l = z := by simpa using hz
          rcases b with b | b
          · exact Or.inl b
          · exact Or.inr (Or.inl b)
        | none =>
          refine h.tried fun c' hc' => ?_
          obtain rfl := Option.some.inj (hc.symm.trans hc')
          refine ⟨fun e => (by rw [hy] at e; cases e), fun z hz => ?_⟩
          rw [hy] at hz
          obtain rfl : y = z := by simpa using hz
          have hr := hck.2 y hym.1
          have hv := List.find?_eq_none.1 hf y hym.1
          exact Or.inr (Or.inr ((h.v1 (-y) (by omega) (by omega) (by omega)).2 (by rw [Int.natAbs_neg]; simpa using hv)))
      · rename_i ho
        exfalso
        omega
  · rename_i h2
    refine h.tried fun c' hc' => ?_
    obtain rfl := Option.some.inj (hc.symm.trans hc')
    refine ⟨fun e => ?_, fun y e => ?_⟩
    · rw [e] at hl; simp at hl; omega
    · rw [e] at hl; simp at hl; omega
theorem UInv.tryFrom (hcl : ∀ c ∈ cl, clauseOk n c = true) : ∀ (d : Nat) (s : PS) (i : Nat), d + i = cl.length → UInv n cl st pr (fun k => k < i) s → UInv n cl st pr (fun k => k < cl.length) (PS.tryFrom cl d s (i : Int))
  | 0, s, i, hd, h => by
    rw [show i = cl.length by omega] at h
    exact h
  | d + 1, s, i, hd, h => by
    have h1 := h.tryC hcl (i := i) (by omega)
    have h2 : UInv n cl st pr (fun k => k < i + 1) (s.tryC cl (i : Int)) := ⟨h1.val, h1.v1, h1.v2, h1.lits, h1.nd, h1.up, h1.fl, h1.lft, h1.sub, fun k c hk ht => h1.lkd k c hk (by omega)⟩
    have h3 := UInv.tryFrom hcl d (s.tryC cl (i : Int)) (i + 1) (by omega) h2
    unfold PS.tryFrom
    exact h3
/-- A clause is told of a further literal. -/
theorem UInv.dec (hn : n ≤ 65536) (h0n : 0 ≤ n) (hcl : ∀ c ∈ cl, clauseOk n c = true) (h : UInv n cl st pr (fun k => k < cl.length) s) (hsl : s.left.length = cl.length) {i : Nat} {c : List Int} (hi : cl[i]? = some c) {p : Int} (hp : p ∈ s.list) (hpn : p ∉ pr i) (hc : -p ∈ c) :
    UInv n cl st (fun k => if k = i then pr i ++ [p] else pr k) (fun k => k < cl.length) (s.dec cl (i : Int)) := by
  have hlt : i < cl.length := (List.getElem?_eq_some_iff.1 hi).1
  have hmem : c ∈ cl := List.mem_of_getElem? hi
  have hl := h.lft i c hi
  have hlen := clauseOk_length h0n (hcl c hmem)
  have hle : (free (pr i) c).length ≤ c.length := List.length_filter_le _ _
  have hless := free_less (clause_nodup (hcl c hmem)) hpn hc
  have hw : wrap64 (rd s.left (i : Int) - 1) = ((free (pr i ++ [p]) c).length : Int) := by unfold wrap64; omega
  have h1 : UInv n cl st (fun k => if k = i then pr i ++ [p] else pr k) (fun k => k < cl.length ∧ k ≠ i) { s with left := s.left.set i (wrap64 (rd s.left (i : Int) - 1)) } :=
    ⟨h.val, h.v1, h.v2, h.lits, h.nd, h.up, h.fl, fun k d hk => by
      simp only
      rw [rd_set _ (by omega)]
      by_cases e : k = i
      · subst e
        obtain rfl := Option.some.inj (hi.symm.trans hk)
        rw [if_pos rfl, if_pos rfl]
        exact hw
      · rw [if_neg (Ne.symm e), if_neg e]
        exact h.lft k d hk, fun k l hk => by
      by_cases e : k = i
      · rw [if_pos e] at hk
        rcases List.mem_append.1 hk with hk | hk
        · exact h.sub i l hk
        · rw [List.mem_singleton.1 hk]; exact hp
      · rw [if_neg e] at hk
        exact h.sub k l hk, fun k d hk ht => by
      simp only [if_neg ht.2]
      exact h.lkd k d hk ht.1⟩
  have h2 := h1.tryC hcl hlt
  unfold PS.dec
  rw [Int.toNat_natCast]
  exact ⟨h2.val, h2.v1, h2.v2, h2.lits, h2.nd, h2.up, h2.fl, h2.lft, h2.sub, fun k d hk ht => h2.lkd k d hk (by show (k < cl.length ∧ k ≠ i) ∨ k = i; omega)⟩
theorem add_mem (s : PS) (l : Int) : ∀ x ∈ s.list, x ∈ (s.add l).list := by
  intro x hx
  unfold PS.add
  split
  · exact List.mem_append_left _ hx
  · split
    · exact hx
    · exact hx
theorem add_pre (s : PS) (l : Int) : s.list <+: (s.add l).list := by
  unfold PS.add
  split
  · exact List.prefix_append _ _
  · split
    · exact List.prefix_refl _
    · exact List.prefix_refl _
theorem add_left (s : PS) (l : Int) : (s.add l).left = s.left := by unfold PS.add; split; rfl; split <;> rfl
theorem look_keeps (cl : List (List Int)) (s : PS) (c : Int) : s.list <+: (s.look cl c).list ∧ (s.look cl c).left = s.left := by
  unfold PS.look
  split
  · exact ⟨List.prefix_refl _, rfl⟩
  · split
    · split
      · exact ⟨add_pre _ _, add_left _ _⟩
      · exact ⟨List.prefix_refl _, rfl⟩
    · exact ⟨List.prefix_refl _, rfl⟩
theorem tryC_keeps (cl : List (List Int)) (s : PS) (c : Int) : s.list <+: (s.tryC cl c).list ∧ (s.tryC cl c).left = s.left := by
  unfold PS.tryC
  split
  · exact look_keeps _ _ _
  · exact ⟨List.prefix_refl _, rfl⟩
theorem dec_keeps (cl : List (List Int)) (s : PS) (c : Int) : s.list <+: (s.dec cl c).list ∧ (s.dec cl c).left.length = s.left.length := by
  have h := tryC_keeps cl { s with left := s.left.set c.toNat (wrap64 (rd s.left c - 1)) } c
  unfold PS.dec
  exact ⟨h.1, by rw [h.2]; simp⟩
/-- All clauses with the opposite of a literal are told of it. -/
theorem UInv.decs (hn : n ≤ 65536) (h0n : 0 ≤ n) (hcl : ∀ c ∈ cl, clauseOk n c = true) (P : List Int) (p : Int) (hpP : p ∉ P) : ∀ (l : List Int) (pr : Nat → List Int) (s : PS), l.Nodup → (∀ x ∈ l, ∃ (i : Nat) (c : List Int), x = (i : Int) ∧ cl[i]? = some c ∧ -p ∈ c ∧ pr i = P) → (∀ k, pr k = P ∨ pr k = P ++ [p]) → UInv n cl st pr (fun k => k < cl.length) s → s.left.length = cl.length → p ∈ s.list →
    ∃ pr' : Nat → List Int, (∀ k : Nat, pr' k = if (k : Int) ∈ l then P ++ [p] else pr k) ∧ UInv n cl st pr' (fun k => k < cl.length) (l.foldl (PS.dec cl) s) ∧ (l.foldl (PS.dec cl) s).left.length = cl.length ∧ s.list <+: (l.foldl (PS.dec cl) s).list
  | [], pr, s, _, _, _, h, hl, hp => ⟨pr, fun k => by simp, h, hl, List.prefix_refl _⟩
  | x :: t, pr, s, hnd, hx, hpr, h, hl, hp => by
    obtain ⟨i, c, rfl, hi, hc, hpi⟩ := hx x List.mem_cons_self
    obtain ⟨hnx, hnt⟩ := List.nodup_cons.1 hnd
    have h1 := h.dec hn h0n hcl hl hi hp (by rw [hpi]; exact hpP) hc
    have hk := dec_keeps cl s (i : Int)
    obtain ⟨pr', e', h2, h3, h4⟩ := UInv.decs hn h0n hcl P p hpP t _ (s.dec cl (i : Int)) hnt (fun y hy => by
      obtain ⟨j, d, rfl, hj, hd, hpj⟩ := hx y (List.mem_cons_of_mem _ hy)
      refine ⟨j, d, rfl, hj, hd, ?_⟩
      rw [if_neg (fun e => hnx (by rw [← e]; exact hy))]
      exact hpj) (fun k => by
      by_cases e : k = i
      · exact Or.inr (by rw [if_pos e, hpi])
      · rw [if_neg e]; exact hpr k) h1 (by rw [hk.2]; exact hl) (hk.1.subset hp)
    refine ⟨pr', fun k => ?_, h2, h3, hk.1.trans h4⟩
    rw [e']
    by_cases e1 : (k : Int) ∈ t
    · simp [e1]
    · by_cases e2 : k = i
      · subst e2
        simp [e1, hpi]
      · have : (k : Int) ≠ (i : Int) := by omega
        simp [e1, e2, this]
/-- The clauses of a literal, by their numbers. -/
def occ (l : Int) : Nat → List (List Int) → List Int
  | _, [] => []
  | i, c :: t => (if l ∈ c then [(i : Int)] else []) ++ occ l (i + 1) t
theorem occ_mem (l : Int) : ∀ (cl : List (List Int)) (i : Nat) (x : Int), x ∈ occ l i cl ↔ ∃ (k : Nat) (c : List Int), x = ((i + k : Nat) : Int) ∧ cl[k]? = some c ∧ l ∈ c
  | [], i, x => by simp [occ]
  | d :: t, i, x => by
    simp only [occ, List.mem_append, occ_mem l t (i + 1) x]
    constructor
    · rintro (h | ⟨k, c, e, hk, hl⟩)
      · split at h
        · rename_i hd
          exact ⟨0, d, by simpa using h, rfl, hd⟩
        · cases h
      · exact ⟨k + 1, c, by rw [e]; omega, by simpa using hk, hl⟩
    · rintro ⟨k, c, e, hk, hl⟩
      cases k with
      | zero =>
        left
        simp only [List.getElem?_cons_zero, Option.some.injEq] at hk
        subst hk
        rw [if_pos hl]
        simpa using e
      | succ k => exact Or.inr ⟨k, c, by rw [e]; omega, by simpa using hk, hl⟩
theorem occ_nodup (l : Int) : ∀ (cl : List (List Int)) (i : Nat), (occ l i cl).Nodup
  | [], i => by simp [occ]
  | d :: t, i => by
    simp only [occ]
    rw [List.nodup_append]
    refine ⟨by split <;> simp, occ_nodup l t (i + 1), fun x hx y hy e => ?_⟩
    subst e
    obtain ⟨k, c, e, _, _⟩ := (occ_mem l t (i + 1) x).1 hy
    split at hx
    · have := List.mem_singleton.1 hx
      omega
    · cases hx
theorem idx_inj {x y : Int} (h : idx x = idx y) : x = y := by
  unfold idx at h
  split at h <;> split at h <;> omega
theorem idx_lt {n x : Int} (h1 : -n ≤ x) (h2 : x ≤ n) : (idx x : Int) < 2 * n + 2 := by
  unfold idx
  split <;> omega
theorem clause_places (i : Int) : ∀ (c : List Int) (s : PS), c.Nodup → (∀ x ∈ c, idx x < s.places.length) → ∀ l : Int, (c.foldl (PS.place i) s).places.getD (idx l) [] = s.places.getD (idx l) [] ++ (if l ∈ c then [i] else [])
  | [], s, _, _, l => by simp
  | x :: d, s, hnd, hx, l => by
    obtain ⟨h1, h2⟩ := List.nodup_cons.1 hnd
    have ih := clause_places i d (s.place i x) h2 (fun y hy => by simpa [PS.place] using hx y (List.mem_cons_of_mem _ hy)) l
    simp only [List.foldl_cons]
    rw [ih]
    have hl := hx x List.mem_cons_self
    have e : (s.place i x).places.getD (idx l) [] = s.places.getD (idx l) [] ++ (if l = x then [i] else []) := by
      simp only [PS.place, List.getD_eq_getElem?_getD, List.getElem?_set]
      by_cases hlx : l = x
      · subst hlx
        simp [hl]
      · have : idx x ≠ idx l := fun e => hlx (idx_inj e).symm
        simp [this, hlx]
    rw [e]
    by_cases hlx : l = x
    · subst hlx
      simp [h1]
    · simp [hlx]
theorem place_len (i : Int) : ∀ (c : List Int) (s : PS), (c.foldl (PS.place i) s).places.length = s.places.length ∧ (c.foldl (PS.place i) s).left = s.left
  | [], s => ⟨rfl, rfl⟩
  | x :: d, s => by
    have := place_len i d (s.place i x)
    simp only [List.foldl_cons]
    exact ⟨this.1.trans (by simp [PS.place]), this.2.trans rfl⟩
theorem fill_all {n : Int} : ∀ (cl : List (List Int)) (s : PS) (i : Nat), (∀ c ∈ cl, clauseOk n c = true) → (s.places.length : Int) = 2 * n + 2 →
    (∀ l : Int, (fillFrom s (i : Int) cl).places.getD (idx l) [] = s.places.getD (idx l) [] ++ occ l i cl) ∧ (fillFrom s (i : Int) cl).left = s.left ++ cl.map fun c => (c.length : Int)
  | [], s, i, _, _ => by simp [fillFrom, occ]
  | c :: t, s, i, hcl, hp => by
    have hc := hcl c List.mem_cons_self
    have hr := ((clauseOk_iff n c).1 hc).2
    have hpl := place_len (i : Int) c { s with left := s.left ++ [(c.length : Int)] }
    have hcp := clause_places (i : Int) c { s with left := s.left ++ [(c.length : Int)] } (clause_nodup hc) (fun x hx => by
      have h1 := hr x hx
      have := idx_lt h1.2.1 h1.2.2
      simp only
      omega)
    have ih := fill_all (n := n) t (s.clause (i : Int) c) (i + 1) (fun d hd => hcl d (List.mem_cons_of_mem _ hd)) (by unfold PS.clause; rw [hpl.1]; exact hp)
    simp only [fillFrom]
    refine ⟨fun l => ?_, ?_⟩
    · have := ih.1 l
      rw [show ((i : Int) + 1) = ((i + 1 : Nat) : Int) by omega, this]
      unfold PS.clause
      rw [hcp l]
      simp only [occ, List.append_assoc]
    · rw [show ((i : Int) + 1) = ((i + 1 : Nat) : Int) by omega, ih.2]
      unfold PS.clause
      rw [hpl.2]
      simp
theorem add_fails (s : PS) (l : Int) (h : s.fails = true) : (s.add l).fails = true := by
  unfold PS.add
  split
  · exact h
  · split
    · rfl
    · exact h
theorem UInv.adds : ∀ (l : List Int) (s : PS), (∀ x ∈ l, startOk n x = true ∧ x ∈ st) → UInv n cl st pr tr s → UInv n cl st pr tr (l.foldl PS.add s) ∧ (s.fails = true → (l.foldl PS.add s).fails = true) ∧ s.list <+: (l.foldl PS.add s).list ∧ ((l.foldl PS.add s).fails = true ∨ ∀ x ∈ l, x ∈ (l.foldl PS.add s).list)
  | [], s, _, h => ⟨h, fun h => h, List.prefix_refl _, Or.inr (by simp)⟩
  | x :: t, s, hx, h => by
    have hx0 := hx x List.mem_cons_self
    have hr : x ≠ 0 ∧ -n ≤ x ∧ x ≤ n := by simpa [startOk] using hx0.1
    obtain ⟨a, b⟩ := h.add hr.1 hr.2.1 hr.2.2 (UP.start hx0.2)
    obtain ⟨c1, c2, c3, c4⟩ := UInv.adds t (s.add x) (fun y hy => hx y (List.mem_cons_of_mem _ hy)) a
    refine ⟨c1, fun hf => c2 (add_fails _ _ hf), (add_pre s x).trans c3, ?_⟩
    rcases c4 with c4 | c4
    · exact Or.inl c4
    · rcases b with b | b
      · exact Or.inl (c2 b)
      · refine Or.inr fun y hy => ?_
        rcases List.mem_cons.1 hy with rfl | hy
        · exact c3.subset b
        · exact c4 y hy
theorem SInv.decs {m : Nat} (hcl : ∀ c ∈ cl, clauseOk n c = true) : ∀ (l : List Int) (s : PS), SInv n m s → SInv n m (l.foldl (PS.dec cl) s)
  | [], s, h => h
  | x :: t, s, h => SInv.decs hcl t _ (h.dec hcl x)
theorem decs_places : ∀ (l : List Int) (s : PS), (l.foldl (PS.dec cl) s).places = s.places
  | [], s => rfl
  | x :: t, s => (decs_places t _).trans (dec_places cl s x)
theorem UInv.run (hn : n ≤ 65536) (h0n : 0 ≤ n) (hcl : ∀ c ∈ cl, clauseOk n c = true) : ∀ (f : Nat) (s : PS) (k : Nat), n + 1 ≤ (f : Int) + k → k ≤ s.list.length → (∀ l : Int, s.places.getD (idx l) [] = occ l 0 cl) → SInv n cl.length s → UInv n cl st (fun _ => s.list.take k) (fun i => i < cl.length) s →
    ∃ P, UInv n cl st (fun _ => P) (fun i => i < cl.length) (PS.run cl f s (k : Int)) ∧ ((PS.run cl f s (k : Int)).fails = true ∨ P = (PS.run cl f s (k : Int)).list) ∧ s.list <+: (PS.run cl f s (k : Int)).list
  | 0, s, k, hf, hk, hp, hs, h => by
    have := hs.list_le
    exact ⟨_, h, Or.inr (List.take_of_length_le (by omega)), List.prefix_refl _⟩
  | f + 1, s, k, hf, hk, hp, hs, h => by
    by_cases hgo : (k : Int) < (s.list.length : Int) ∧ s.fails = false
    · rw [run_go cl f s k hgo]
      have hkl : k < s.list.length := by omega
      obtain ⟨p, hpe⟩ : ∃ p, p = s.list[k] := ⟨_, rfl⟩
      have hrd : rd s.list (k : Int) = p := by rw [rd_get (by omega) (by omega)]; simpa using hpe.symm
      have hpm : p ∈ s.list := by rw [hpe]; exact List.getElem_mem hkl
      have htk : s.list.take (k + 1) = s.list.take k ++ [p] := by rw [List.take_add_one, List.getElem?_eq_getElem hkl, hpe]; rfl
      have hpP : p ∉ s.list.take k := fun hm => by
        have hnd : (s.list.take (k + 1)).Nodup := h.nd.sublist (List.take_sublist _ _)
        rw [htk, List.nodup_append] at hnd
        exact hnd.2.2 p hm p (by simp) rfl
      rw [hrd, hp (-p)]
      obtain ⟨pr', e', h1, h2, h3⟩ := UInv.decs hn h0n hcl (s.list.take k) p hpP (occ (-p) 0 cl) (fun _ => s.list.take k) s (occ_nodup _ _ _) (fun x hx => by
        obtain ⟨j, c, e, hj, hc⟩ := (occ_mem (-p) cl 0 x).1 hx
        exact ⟨j, c, by simpa using e, hj, hc, rfl⟩) (fun _ => Or.inl rfl) h hs.left hpm
      obtain ⟨r, hr⟩ : ∃ r, r = (occ (-p) 0 cl).foldl (PS.dec cl) s := ⟨_, rfl⟩
      rw [← hr] at h1 h2 h3 ⊢
      have htk2 : r.list.take (k + 1) = s.list.take k ++ [p] := by
        obtain ⟨q, hq⟩ := h3
        rw [← hq, List.take_append_of_le_length (by omega), htk]
      have hfree : ∀ (i : Nat) (c : List Int), cl[i]? = some c → free (s.list.take k ++ [p]) c = free (pr' i) c := fun i c hi => by
        rw [e' i]
        split
        · rfl
        · rename_i hno
          exact free_same fun hm => hno ((occ_mem (-p) cl 0 i).2 ⟨i, c, by simp, hi, hm⟩)
      have h4 : UInv n cl st (fun _ => r.list.take (k + 1)) (fun i => i < cl.length) r := by
        rw [htk2]
        exact ⟨h1.val, h1.v1, h1.v2, h1.lits, h1.nd, h1.up, h1.fl, fun i c hi => by rw [hfree i c hi]; exact h1.lft i c hi, fun i l hl => by
          rw [← htk2] at hl
          exact List.mem_of_mem_take hl, fun i c hi ht => by rw [hfree i c hi]; exact h1.lkd i c hi ht⟩
      have hlen := h3.length_le
      have := UInv.run hn h0n hcl f r (k + 1) (by omega) (by omega) (fun l => by rw [hr, decs_places]; exact hp l) (by rw [hr]; exact SInv.decs hcl _ _ hs) h4
      obtain ⟨P, a, b, c⟩ := this
      exact ⟨P, a, b, h3.trans c⟩
    · rw [run_stop cl (f + 1) s k hgo]
      refine ⟨_, h, ?_, List.prefix_refl _⟩
      by_cases hf2 : s.fails = true
      · exact Or.inl hf2
      · refine Or.inr (List.take_of_length_le ?_)
        have : ¬ (k : Int) < (s.list.length : Int) := fun hlt => hgo ⟨hlt, by simpa using hf2⟩
        omega
/-- WHAT PROPAGATION FINDS: the set, or a clash in it. -/
theorem propS_spec (hn : n ≤ 65536) (h0n : 0 ≤ n) (hcl : ∀ c ∈ cl, clauseOk n c = true) (hst : ∀ l ∈ st, startOk n l = true) :
    ((propS n cl st).fails = true → Clash cl st) ∧ ((propS n cl st).fails = false → ¬ Clash cl st ∧ (∀ l, l ∈ (propS n cl st).list ↔ UP cl st l) ∧ (propS n cl st).list.Nodup) := by
  obtain ⟨f1, f2, f3, f4, f5, f6⟩ := fill_inv h0n cl.length cl (PS.init n) 0 hcl (by omega) (by omega) rfl (by simp [PS.init]; omega) (fun p hp c hc => by
    have := List.eq_of_mem_replicate hp
    subst this
    cases hc)
  obtain ⟨g1, g2⟩ := fill_all (n := n) cl (PS.init n) 0 hcl (by simp [PS.init]; omega)
  have hS0 := fill_SInv h0n hcl
  rw [show ((0 : Nat) : Int) = 0 from rfl] at g1 g2
  obtain ⟨s0, hs0⟩ : ∃ s, s = fillFrom (PS.init n) 0 cl := ⟨_, rfl⟩
  rw [← hs0] at f1 f2 f3 f4 f5 f6 g1 g2 hS0
  have hz : ∀ x : Int, rd s0.value x = 0 := fun x => by
    rw [f4]
    unfold rd
    simp only [PS.init, List.getD_eq_getElem?_getD, List.getElem?_replicate]
    split <;> rfl
  have hP0 : ∀ l : Int, s0.places.getD (idx l) [] = occ l 0 cl := fun l => by
    rw [g1 l]
    simp only [PS.init, List.getD_eq_getElem?_getD, List.getElem?_replicate]
    split <;> simp
  have hnil : s0.list = [] := f5
  have u0 : UInv n cl st (fun _ => []) (fun _ => False) s0 :=
    ⟨hS0.val, fun l h0 _ _ => (by rw [hnil, hz]; simp; omega), fun l _ _ _ => Or.inl (hz _), fun l hl => absurd hl (by rw [hnil]; simp), (by rw [hnil]; simp), fun l hl => absurd hl (by rw [hnil]; simp), fun h => absurd h (by rw [f6]; simp [PS.init]),
      fun i c hi => (by
        rw [g2, free_nil]
        have hlt := (List.getElem?_eq_some_iff.1 hi).1
        rw [rd_get (by omega) (by simp [PS.init]; omega)]
        obtain ⟨h1, h2⟩ := List.getElem?_eq_some_iff.1 hi
        simp [PS.init, h2]), fun i l hl => (by cases hl), fun i c hi ht => ht.elim⟩
  obtain ⟨u1, _, pre1, m1⟩ := u0.adds st s0 (fun x hx => ⟨hst x hx, hx⟩)
  obtain ⟨s1, hs1⟩ : ∃ s, s = st.foldl PS.add s0 := ⟨_, rfl⟩
  have hS1 : ∀ (l : List Int) (s : PS), (∀ x ∈ l, startOk n x = true) → SInv n cl.length s → SInv n cl.length (l.foldl PS.add s) ∧ (l.foldl PS.add s).places = s.places := by
    intro l
    induction l with
    | nil => intro s _ h; exact ⟨h, rfl⟩
    | cons x t ih =>
      intro s hx h
      have hr : x ≠ 0 ∧ -n ≤ x ∧ x ≤ n := by simpa [startOk] using hx x List.mem_cons_self
      have := ih (s.add x) (fun y hy => hx y (List.mem_cons_of_mem _ hy)) (h.add (by omega) (by omega))
      exact ⟨this.1, this.2.trans (add_places _ _)⟩
  obtain ⟨hS1, hp1⟩ := hS1 st s0 hst hS0
  rw [← hs1] at u1 pre1 m1 hS1 hp1
  have hS2 : ∀ (d : Nat) (s : PS) (i : Int), SInv n cl.length s → SInv n cl.length (PS.tryFrom cl d s i) ∧ (PS.tryFrom cl d s i).places = s.places ∧ s.list <+: (PS.tryFrom cl d s i).list := by
    intro d
    induction d with
    | zero => intro s i h; exact ⟨h, rfl, List.prefix_refl _⟩
    | succ d ih =>
      intro s i h
      have := ih (s.tryC cl i) (i + 1) (h.tryC hcl i)
      unfold PS.tryFrom
      exact ⟨this.1, this.2.1.trans (tryC_places _ _ _), (tryC_keeps cl s i).1.trans this.2.2⟩
  obtain ⟨hS2, hp2, pre2⟩ := hS2 cl.length s1 0 hS1
  have u2 := UInv.tryFrom hcl cl.length s1 0 (by omega) (⟨u1.val, u1.v1, u1.v2, u1.lits, u1.nd, u1.up, u1.fl, u1.lft, u1.sub, fun k c _ h => absurd h (Nat.not_lt_zero _)⟩ : UInv n cl st (fun _ => []) (fun k => k < 0) s1)
  rw [show ((0 : Nat) : Int) = 0 from rfl] at u2
  have hprop : propS n cl st = PS.run cl (n + 1).toNat (PS.tryFrom cl cl.length s1 0) 0 := by unfold propS; rw [← hs0, ← hs1]
  obtain ⟨s2, hs2⟩ : ∃ s, s = PS.tryFrom cl cl.length s1 0 := ⟨_, rfl⟩
  rw [← hs2] at u2 hS2 hp2 pre2 hprop
  obtain ⟨P, u3, hor, pre3⟩ := UInv.run hn h0n hcl (n + 1).toNat s2 0 (by omega) (by omega) (fun l => by rw [hp2, hp1]; exact hP0 l) hS2 (by simpa using u2)
  rw [show ((0 : Nat) : Int) = 0 from rfl, ← hprop] at u3 hor pre3
  refine ⟨u3.fl, fun hf => ?_⟩
  have hPl : P = (propS n cl st).list := by
    rcases hor with h | h
    · rw [hf] at h; cases h
    · exact h
  subst hPl
  have hstart : ∀ l ∈ st, l ∈ (propS n cl st).list := fun l hl => pre3.subset (pre2.subset (by
    rcases m1 with h | h
    · exfalso
      have mono : ∀ (s : PS) (i : Int), s.fails = true → (s.tryC cl i).fails = true := fun s i h => by
        unfold PS.tryC PS.look
        split
        · split
          · rfl
          · split
            · split
              · exact add_fails _ _ h
              · exact h
            · exact h
        · exact h
      have mono2 : ∀ (d : Nat) (s : PS) (i : Int), s.fails = true → (PS.tryFrom cl d s i).fails = true := by
        intro d
        induction d with
        | zero => intro s i h; exact h
        | succ d ih => intro s i h; exact ih _ _ (mono _ _ h)
      have h2 : s2.fails = true := by rw [hs2]; exact mono2 _ _ _ h
      have h3 : propS n cl st = s2 := by rw [hprop, run_stop cl _ s2 0 (fun hx => by rw [h2] at hx; cases hx.2)]
      rw [h3, h2] at hf
      cases hf
    · exact h l hl))
  have hclosed : ∀ c ∈ cl, ∀ l ∈ c, (∀ x ∈ c, x ≠ l → -x ∈ (propS n cl st).list) → l ∈ (propS n cl st).list := fun c hc l hl hx => by
    obtain ⟨i, hi, rfl⟩ := List.getElem_of_mem hc
    have hlk := u3.lkd i _ (List.getElem?_eq_getElem hi) hi
    have hsub : ∀ x ∈ free (propS n cl st).list cl[i], x = l := fun x hx1 => by
      obtain ⟨h1, h2⟩ := mem_free.1 hx1
      apply Classical.byContradiction
      intro hne
      exact h2 (hx x h1 hne)
    have hnd : (free (propS n cl st).list cl[i]).Nodup := (clause_nodup (hcl _ hc)).filter _
    match hfr : free (propS n cl st).list cl[i], hnd with
    | [], _ => rw [hlk.1 hfr] at hf; cases hf
    | [y], _ =>
      have hy : y ∈ free (propS n cl st).list cl[i] := by rw [hfr]; simp
      have := hsub y hy
      subst this
      rcases hlk.2 y hfr with h | h | h
      · rw [hf] at h; cases h
      · exact h
      · exact absurd h (mem_free.1 hy).2
    | y :: z :: t, hnd =>
      have hy := hsub y (by rw [hfr]; simp)
      have hz := hsub z (by rw [hfr]; simp)
      subst hy
      rw [hz] at hnd
      simp at hnd
  have hiff : ∀ l, l ∈ (propS n cl st).list ↔ UP cl st l := fun l => ⟨u3.up l, fun h => h.closed hstart hclosed⟩
  refine ⟨?_, hiff, u3.nd⟩
  rintro (⟨l, h1, h2⟩ | h)
  · have a := (hiff l).2 h1
    have b := (hiff (-l)).2 h2
    have r := u3.lits l a
    have e1 := (u3.v1 l r.1 r.2.1 r.2.2).1 a
    have e2 := (u3.v1 (-l) (by omega) (by omega) (by omega)).1 b
    rw [Int.natAbs_neg] at e2
    omega
  · obtain ⟨i, hi, e⟩ := List.getElem_of_mem h
    have := (u3.lkd i _ (List.getElem?_eq_getElem hi) hi).1 (by rw [e]; rfl)
    rw [hf] at this
    cases this
end Go.Proofs.YteaohgebocbehaaGreatDoor.Plain
end
section
/- What Propagate answers, told once. No program. -/
set_option linter.unusedVariables false
namespace Go.Proofs.YteaohgebocbehaaGreatDoor.Plain
open Go.RowKit Go.Proofs.YteaohgebocbehaaGreatDoorW.PrintWords
variable {n : Int} {cl : List (List Int)} {st : List Int}
/-- What Propagate answers: one answer alone. -/
def PropRes (n : Int) (cl : List (List Int)) (st : List Int) (r : List Int × Bool × Int) : Prop :=
  if validC n cl = true ∧ st.all (startOk n) = true then r.2.2 = 0 ∧ (Clash cl st → r.1 = [] ∧ r.2.1 = false) ∧ (¬ Clash cl st → r.2.1 = true ∧ Inc r.1 ∧ ∀ l, l ∈ r.1 ↔ UP cl st l)
  else r = ([], false, 1)
theorem PropRes.unique {r s : List Int × Bool × Int} (h : PropRes n cl st r) (g : PropRes n cl st s) : r = s := by
  unfold PropRes at h g
  by_cases hc : validC n cl = true ∧ st.all (startOk n) = true
  · rw [if_pos hc] at h g
    obtain ⟨r1, r2, r3⟩ := r
    obtain ⟨s1, s2, s3⟩ := s
    obtain ⟨h1, h2, h3⟩ := h
    obtain ⟨g1, g2, g3⟩ := g
    simp only at h1 h2 h3 g1 g2 g3
    by_cases hx : Clash cl st
    · rw [(h2 hx).1, (h2 hx).2, (g2 hx).1, (g2 hx).2, h1, g1]
    · obtain ⟨a1, a2, a3⟩ := h3 hx
      obtain ⟨b1, b2, b3⟩ := g3 hx
      rw [a1, b1, h1, g1, inc_ext r1 s1 a2 b2 (fun x => (a3 x).trans (b3 x).symm)]
  · rw [if_neg hc] at h g
    rw [h, g]
end Go.Proofs.YteaohgebocbehaaGreatDoor.Plain
end
section
/- What is propagated holds in every model that has what it starts from; propagating it again gives the same; slices.Contains as a plain test. Conditions: a valid formula, literals of its variables. -/
set_option linter.unusedVariables false
set_option linter.unusedSimpArgs false
namespace Go.Proofs.YteaohgebocbehaaGreatDoor.Plain
open Go.RowKit Go.Proofs.YteaohgebocbehaaGreatDoor.XA Go.Proofs.YteaohgebocbehaaGreatDoor.Hand Go.Proofs.YteaohgebocbehaaGreatDoorW.PrintWords
theorem index_ev (l : List Int) (a : Int) (hl : l.length ≤ 4611686018427387904) : ∀ (d : Nat) (i : Int), 0 ≤ i → i ≤ l.length → (l.length : Int) - i = d → ∃ r, Ev (fun k => slices_Index_int_int.l0 k l a (l.length : Int) i) r ∧ (0 ≤ r ↔ a ∈ l.drop i.toNat) := by
  intro d
  induction d with
  | zero =>
    intro i h0 h1 hd
    exact ⟨-1, Ev.step (f := fun _ => some (-1)) (fun k => by simp only [slices_Index_int_int.l0]; rw [if_neg (by omega)]) (Ev.now _), by rw [List.drop_eq_nil_of_le (by omega)]; simp⟩
  | succ d ih =>
    intro i h0 h1 hd
    have hlt : i < (l.length : Int) := by omega
    have hw : wrap64 (i + 1) = i + 1 := w64 (by omega) (by omega)
    rw [drop_rd h0 hlt]
    by_cases e : a = rd l i
    · refine ⟨i, Ev.step (f := fun _ => some i) (fun k => ?_) (Ev.now _), by simp [e, h0]⟩
      simp only [slices_Index_int_int.l0]
      rw [if_pos hlt, if_pos h0, if_pos hlt, if_pos e]
    · obtain ⟨r, hr, h⟩ := ih (i + 1) (by omega) (by omega) (by omega)
      refine ⟨r, Ev.step (fun k => ?_) hr, by rw [h]; simp [e]⟩
      simp only [slices_Index_int_int.l0]
      rw [if_pos hlt, if_pos h0, if_pos hlt, if_neg e, hw]
theorem contains_f (l : List Int) (a : Int) (hl : l.length ≤ 4611686018427387904) : Ev (fun k => slices_Contains_int_int.f k l a) (l.contains a) := by
  obtain ⟨r, hr, h⟩ := index_ev l a hl l.length 0 (by omega) (by omega) (by omega)
  have hr' : Ev (fun k => slices_Index_int_int.f k l a) r := hr
  refine Ev.congr (fun k => by unfold slices_Contains_int_int.f; rfl) (Ev.bind hr' ?_)
  have : decide (r ≥ 0) = l.contains a := by
    rw [show (0 : Int).toNat = 0 from rfl, List.drop_zero] at h
    rw [List.contains_eq_mem]
    exact decide_eq_decide.2 h
  rw [← this]
  exact Ev.now _
variable {n : Int} {cl : List (List Int)} {st m : List Int}
theorem model_only (hm : (m.length : Int) = n) (hok : mOk 0 m = true) {x : Int} (hx : x ∈ m) : x ≠ 0 ∧ -x ∉ m := by
  have key : ∀ (m : List Int) (i : Nat), mOk i m = true → ∀ x ∈ m, ∃ j : Nat, (i : Int) + 1 + j = x.natAbs ∧ m[j]? = some x := by
    intro m
    induction m with
    | nil => intro i _ x hx; cases hx
    | cons y t ih =>
      intro i h x hx
      simp only [mOk, Bool.and_eq_true, decide_eq_true_eq] at h
      rcases List.mem_cons.1 hx with rfl | hx
      · exact ⟨0, by omega, rfl⟩
      · obtain ⟨j, h1, h2⟩ := ih (i + 1) h.2 x hx
        exact ⟨j + 1, by omega, by simpa using h2⟩
  obtain ⟨j, h1, h2⟩ := key m 0 hok x hx
  refine ⟨by omega, fun hn => ?_⟩
  obtain ⟨j', h3, h4⟩ := key m 0 hok (-x) hn
  have : j = j' := by omega
  subst this
  rw [h2] at h4
  injection h4 with h4
  omega
theorem mAt_mem {x : Int} (hx : 1 ≤ x.natAbs) (hx2 : x.natAbs ≤ m.length) (h : mAt m x = true) : x ∈ m := by
  unfold mAt at h
  have h := of_decide_eq_true h
  rw [rd_get (by omega) (by omega)] at h
  rw [← h]
  exact List.getElem_mem _
/-- A model of the formula with the literals has what follows. -/
theorem UP.sound (h : holdsC n cl m = true) (hst : ∀ x ∈ st, x ∈ m) {l : Int} (hu : UP cl st l) : l ∈ m := by
  unfold holdsC at h
  simp only [Bool.and_eq_true, decide_eq_true_eq, List.all_eq_true] at h
  obtain ⟨hv, hmn, hok, hcl⟩ := h
  obtain ⟨⟨h0n, hn, _⟩, hck⟩ := (validC_iff n cl).1 hv
  induction hu with
  | start h => exact hst _ h
  | @unit c l hc hl _ ih =>
    obtain ⟨y, hy, hyt⟩ := List.any_eq_true.1 (hcl c hc)
    have hr := ((clauseOk_iff n c).1 (hck c hc)).2 y hy
    have hym := mAt_mem (by omega) (by omega) hyt
    by_cases e : y = l
    · rw [← e]; exact hym
    · exact absurd (ih y hy e) (model_only hmn hok hym).2
theorem no_clash (h : holdsC n cl m = true) (hst : ∀ x ∈ st, x ∈ m) : ¬ Clash cl st := by
  rintro (⟨l, h1, h2⟩ | hc)
  · have a := h1.sound h hst
    have b := h2.sound h hst
    unfold holdsC at h
    simp only [Bool.and_eq_true, decide_eq_true_eq, List.all_eq_true] at h
    exact (model_only h.2.1 h.2.2.1 a).2 b
  · unfold holdsC at h
    simp only [Bool.and_eq_true, decide_eq_true_eq, List.all_eq_true] at h
    have := h.2.2.2 [] hc
    simp at this
theorem UP.again {S : List Int} (hS : ∀ l, l ∈ S ↔ UP cl st l) {l : Int} : UP cl S l ↔ UP cl st l := by
  constructor
  · intro h
    induction h with
    | start h => exact (hS _).1 h
    | unit hc hl _ ih => exact UP.unit hc hl ih
  · intro h
    exact UP.start ((hS l).2 h)
/-- Propagating what was propagated gives the same. -/
theorem PropRes.again {r : List Int × Bool × Int} (h : PropRes n cl st r) (hv : validC n cl = true) (hst : st.all (startOk n) = true) (hr : r.2.1 = true) : PropRes n cl r.1 (r.1, true, 0) := by
  unfold PropRes at h
  rw [if_pos ⟨hv, hst⟩] at h
  obtain ⟨_, h2, h3⟩ := h
  have hnc : ¬ Clash cl st := fun hc => by rw [(h2 hc).2] at hr; cases hr
  obtain ⟨_, hi, hm⟩ := h3 hnc
  obtain ⟨⟨h0n, hn, _⟩, hcl⟩ := (validC_iff n cl).1 hv
  unfold PropRes
  have hok : r.1.all (startOk n) = true := by
    rw [List.all_eq_true]
    intro l hl
    have := ((hm l).1 hl).range hcl (List.all_eq_true.1 hst)
    simp [startOk, this]
  rw [if_pos ⟨hv, hok⟩]
  refine ⟨rfl, fun hc => absurd ?_ hnc, fun _ => ⟨rfl, hi, fun l => ?_⟩⟩
  · rcases hc with ⟨l, h1, h2⟩ | hc
    · exact Or.inl ⟨l, (UP.again hm).1 h1, (UP.again hm).1 h2⟩
    · exact Or.inr hc
  · exact (hm l).trans (UP.again hm).symm
/-- What the answers say of the arguments. -/
theorem PropRes.zero {r : List Int × Bool × Int} (h : PropRes n cl st r) (h0 : r.2.2 = 0) : validC n cl = true ∧ st.all (startOk n) = true := by
  unfold PropRes at h
  by_cases hc : validC n cl = true ∧ st.all (startOk n) = true
  · exact hc
  · rw [if_neg hc] at h
    rw [h] at h0
    cases h0
theorem PropRes.bad {r : List Int × Bool × Int} (h : PropRes n cl st r) (h0 : r.2.2 ≠ 0) : r = ([], false, 1) := by
  unfold PropRes at h
  by_cases hc : validC n cl = true ∧ st.all (startOk n) = true
  · rw [if_pos hc] at h
    exact absurd h.1 h0
  · rw [if_neg hc] at h
    exact h
theorem PropRes.false_ {r : List Int × Bool × Int} (h : PropRes n cl st r) (h0 : r.2.1 = false) : r.1 = [] := by
  unfold PropRes at h
  by_cases hc : validC n cl = true ∧ st.all (startOk n) = true
  · rw [if_pos hc] at h
    by_cases hx : Clash cl st
    · exact (h.2.1 hx).1
    · have := (h.2.2 hx).1
      rw [h0] at this
      cases this
  · rw [if_neg hc] at h
    rw [h]
/-- In a model that has the literals, propagation doesn't fail, and finds literals of the model. -/
theorem PropRes.model {r : List Int × Bool × Int} (h : PropRes n cl st r) (h0 : r.2.2 = 0) (hh : holdsC n cl m = true) (hst : ∀ x ∈ st, x ∈ m) : r.2.1 = true ∧ ∀ x ∈ r.1, x ∈ m := by
  have hz := h.zero h0
  unfold PropRes at h
  rw [if_pos hz] at h
  obtain ⟨a, b, c⟩ := h.2.2 (no_clash hh hst)
  exact ⟨a, fun x hx => ((c x).1 hx).sound hh hst⟩
theorem PropRes.start {r : List Int × Bool × Int} (h : PropRes n cl st r) (h0 : r.2.2 = 0) (h1 : r.2.1 = true) : ∀ x ∈ st, x ∈ r.1 := by
  have hz := h.zero h0
  unfold PropRes at h
  rw [if_pos hz] at h
  have hnc : ¬ Clash cl st := fun hc => by rw [(h.2.1 hc).2] at h1; cases h1
  exact fun x hx => ((h.2.2 hnc).2.2 x).2 (UP.start hx)
end Go.Proofs.YteaohgebocbehaaGreatDoor.Plain
end
section
/- Circuits: what gates.Eval answers; in the formula of a circuit, propagation from the inputs' values gives the values of all nodes, or fails. Conditions: as in each theorem. -/
set_option linter.unusedVariables false
set_option linter.unusedSimpArgs false
namespace Go.Proofs.YteaohgebocbehaaGreatDoor.Plain
open Go.RowKit Go.Proofs.YteaohgebocbehaaGreatDoor.XA Go.Proofs.YteaohgebocbehaaGreatDoor.Hand Go.Proofs.YteaohgebocbehaaGreatDoorW.PrintWords
/-- The value of a literal. -/
def lv (vs : List Bool) (x : Int) : Bool := vs.getD (x / 2).toNat false != decide (x % 2 = 1)
def evG : List Bool → List S62 → List Bool
  | vs, [] => vs
  | vs, g :: t => evG (vs ++ [lv vs g.f0 && lv vs g.f1]) t
def evalC (inp : Int) (gs : List S62) (input : List Bool) (lits : List Int) : List Bool × Int :=
  if gValid inp gs = false ∨ litsOk (1 + inp + gs.length) lits = false then ([], 1) else (lits.map (lv (evG (false :: input) gs)), 0)
/-- The literal that a variable's value makes true. -/
def vl (j : Nat) (b : Bool) : Int := if b then (j : Int) + 1 else -((j : Int) + 1)
def modelOf : Nat → List Bool → List Int
  | _, [] => []
  | k, b :: t => vl k b :: modelOf (k + 1) t
theorem modelOf_len : ∀ (vs : List Bool) (k : Nat), (modelOf k vs).length = vs.length
  | [], _ => rfl
  | b :: t, k => by simp [modelOf, modelOf_len t]
theorem modelOf_get : ∀ (vs : List Bool) (k j : Nat), (modelOf k vs)[j]? = vs[j]?.map (vl (k + j))
  | [], _, j => by simp [modelOf]
  | b :: t, k, 0 => by simp [modelOf]
  | b :: t, k, j + 1 => by
    simp only [modelOf, List.getElem?_cons_succ, modelOf_get t (k + 1) j]
    rw [show k + 1 + j = k + (j + 1) by omega]
theorem modelOf_snoc (vs : List Bool) (b : Bool) : ∀ k, modelOf k (vs ++ [b]) = modelOf k vs ++ [vl (k + vs.length) b] := by
  induction vs with
  | nil => intro k; simp [modelOf]
  | cons a t ih => intro k; simp [modelOf, ih (k + 1)]; congr 1; omega
theorem mem_modelOf {vs : List Bool} {k : Nat} {l : Int} : l ∈ modelOf k vs ↔ ∃ j, ∃ h : j < vs.length, l = vl (k + j) vs[j] := by
  rw [List.mem_iff_getElem?]
  constructor
  · rintro ⟨j, hj⟩
    rw [modelOf_get] at hj
    obtain ⟨b, hb, e⟩ := Option.map_eq_some_iff.1 hj
    obtain ⟨h, hb⟩ := List.getElem?_eq_some_iff.1 hb
    exact ⟨j, h, by rw [hb]; exact e.symm⟩
  · rintro ⟨j, h, e⟩
    exact ⟨j, by rw [modelOf_get, List.getElem?_eq_getElem h, e]; rfl⟩
theorem vl_abs (j : Nat) (b : Bool) : (vl j b).natAbs = j + 1 := by unfold vl; split <;> omega
theorem modelOf_inc : ∀ (vs : List Bool) (k : Nat), Inc (modelOf k vs) ∧ ∀ x ∈ modelOf k vs, k < x.natAbs
  | [], _ => ⟨List.Pairwise.nil, by simp [modelOf]⟩
  | b :: t, k => by
    obtain ⟨h1, h2⟩ := modelOf_inc t (k + 1)
    have h3 := vl_abs k b
    refine ⟨List.Pairwise.cons (fun x hx => by have := h2 x hx; omega) h1, fun x hx => ?_⟩
    rcases List.mem_cons.1 hx with rfl | hx
    · omega
    · have := h2 x hx; omega
theorem modelOf_ok : ∀ (vs : List Bool) (k : Nat), mOk k (modelOf k vs) = true
  | [], _ => rfl
  | b :: t, k => by
    simp only [modelOf, mOk, Bool.and_eq_true, decide_eq_true_eq]
    refine ⟨?_, modelOf_ok t (k + 1)⟩
    unfold vl
    split
    · exact Or.inl rfl
    · exact Or.inr rfl
theorem litC_eq {x : Int} (h0 : 0 ≤ x) (h1 : x ≤ 4611686018427387904) : litC x = if x % 2 = 0 then x / 2 + 1 else -(x / 2 + 1) := by
  unfold litC cnf_Literal.f
  have h : Int.tdiv x 2 = x / 2 := by rw [Int.tdiv_eq_ediv_of_nonneg h0]
  have h2 : Int.tmod x 2 = x % 2 := by rw [Int.tmod_eq_emod_of_nonneg h0]
  rw [if_neg (by omega), h, h2, w64 (x := x / 2) (by omega) (by omega), w64 (x := x / 2 + 1) (by omega) (by omega), w64 (by omega) (by omega)]
  split <;> rfl
/-- The literal that is true of a node's literal. -/
theorem lit_vl {vs : List Bool} {x : Int} (h0 : 0 ≤ x) (h1 : x < 2 * vs.length) (hb : x ≤ 4611686018427387904) : (if lv vs x then litC x else -litC x) = vl (x / 2).toNat (vs.getD (x / 2).toNat false) := by
  rw [litC_eq h0 hb]
  unfold lv vl
  have hx : x % 2 = 0 ∨ x % 2 = 1 := by omega
  rcases hx with e | e <;> cases vs.getD (x / 2).toNat false <;> simp [e] <;> omega
theorem lit_model {vs : List Bool} {x : Int} (h0 : 0 ≤ x) (h1 : x < 2 * vs.length) (hb : x ≤ 4611686018427387904) : (if lv vs x then litC x else -litC x) ∈ modelOf 0 vs := by
  rw [lit_vl h0 h1 hb, mem_modelOf]
  exact ⟨(x / 2).toNat, by omega, by rw [Nat.zero_add, List.getD_eq_getElem?_getD, List.getElem?_eq_getElem (by omega)]; rfl⟩
theorem lv_pre {vs ws : List Bool} (h : vs <+: ws) {x : Int} (h0 : 0 ≤ x) (h1 : x < 2 * vs.length) : lv ws x = lv vs x := by
  obtain ⟨t, rfl⟩ := h
  unfold lv
  rw [List.getD_eq_getElem?_getD, List.getD_eq_getElem?_getD, List.getElem?_append_left (by omega)]
theorem evG_spec : ∀ (gs : List S62) (vs : List Bool), (∀ (i : Nat) (h : i < gs.length), 0 ≤ gs[i].f0 ∧ gs[i].f0 < 2 * ((vs.length + i : Nat) : Int) ∧ 0 ≤ gs[i].f1 ∧ gs[i].f1 < 2 * ((vs.length + i : Nat) : Int)) →
    vs <+: evG vs gs ∧ (evG vs gs).length = vs.length + gs.length ∧ ∀ (i : Nat) (h : i < gs.length), (evG vs gs).getD (vs.length + i) false = (lv (evG vs gs) gs[i].f0 && lv (evG vs gs) gs[i].f1)
  | [], vs, _ => ⟨List.prefix_refl _, rfl, fun i h => absurd h (Nat.not_lt_zero _)⟩
  | g :: t, vs, h => by
    obtain ⟨b, hb⟩ : ∃ b, b = (lv vs g.f0 && lv vs g.f1) := ⟨_, rfl⟩
    have h' : ∀ (i : Nat) (hi : i < t.length), 0 ≤ t[i].f0 ∧ t[i].f0 < 2 * (((vs ++ [b]).length + i : Nat) : Int) ∧ 0 ≤ t[i].f1 ∧ t[i].f1 < 2 * (((vs ++ [b]).length + i : Nat) : Int) := fun i hi => by
      have := h (i + 1) (by simpa using hi)
      simp only [List.getElem_cons_succ] at this
      simp only [List.length_append, List.length_cons, List.length_nil]
      omega
    obtain ⟨h1, h2, h3⟩ := evG_spec t (vs ++ [b]) h'
    have e : evG vs (g :: t) = evG (vs ++ [b]) t := by rw [hb]; rfl
    have hp : vs <+: evG (vs ++ [b]) t := (List.prefix_append vs [b]).trans h1
    rw [e]
    refine ⟨hp, by rw [h2]; simp; omega, fun i hi => ?_⟩
    cases i with
    | zero =>
      have h0 := h 0 (by simp)
      simp only [List.getElem_cons_zero, Nat.add_zero] at h0 ⊢
      rw [lv_pre hp (by omega) (by omega), lv_pre hp (by omega) (by omega), ← hb]
      obtain ⟨u, hu⟩ := h1
      rw [← hu, List.getD_eq_getElem?_getD, List.getElem?_append_left (by simp), List.getElem?_append_right (Nat.le_refl _)]
      simp
    | succ i =>
      have := h3 i (by simpa using hi)
      simp only [List.length_append, List.length_cons, List.length_nil, List.getElem_cons_succ] at this ⊢
      rw [show vs.length + (i + 1) = vs.length + (0 + 1) + i by omega]
      exact this
theorem gOk_not : ∀ (gs : List S62) (n : Int) (s : List (Int × Int)), gOk n s gs = true → ∀ (i : Nat) (h : i < gs.length), gs[i].f1 ≠ notI gs[i].f0
  | [], _, _, _, i, h => absurd h (Nat.not_lt_zero _)
  | x :: t, n, s, hg, i, h => by
    simp only [gOk, Bool.and_eq_true, decide_eq_true_eq, Bool.not_eq_true', decide_eq_false_iff_not] at hg
    obtain ⟨h1, h2, h3, h4, _, h6⟩ := hg
    cases i with
    | zero => exact h4
    | succ i =>
      have := gOk_not t (n + 1) _ h6 i (by simpa using h)
      simpa only [List.getElem_cons_succ] using this
theorem addC_mem {l : List Int} (h1 : ∀ x ∈ l, x ≠ 0 ∧ x.natAbs ≤ 1073741824) (h2 : ∀ x ∈ l, -x ∉ l) : Inc (addC l) ∧ ∀ y, y ∈ addC l ↔ y ∈ l := by
  have hin : l.all inR = true := List.all_eq_true.2 fun x hx => (inR_iff x).2 (by have := h1 x hx; omega)
  obtain ⟨a, b⟩ := nrm0_spec l (fun x hx => (h1 x hx).1)
  unfold addC nrm
  rw [if_pos hin]
  cases hr : nrm0 l with
  | none =>
    obtain ⟨x, hx, hnx⟩ := b hr
    exact absurd hnx (h2 x hx)
  | some r => exact ⟨(a r hr).1, (a r hr).2.1⟩
theorem trGates_mem : ∀ (gs : List S62) (v : Int) (c : List Int), c ∈ trGates v gs ↔ ∃ i, ∃ h : i < gs.length, c = addC [-(v + i), litC gs[i].f0] ∨ c = addC [-(v + i), litC gs[i].f1] ∨ c = addC [v + i, -litC gs[i].f0, -litC gs[i].f1]
  | [], v, c => by simp [trGates]
  | x :: t, v, c => by
    simp only [trGates, List.mem_append, List.mem_cons, List.not_mem_nil, or_false, trGates_mem t (v + 1) c]
    constructor
    · rintro (h | ⟨i, hi, h⟩)
      · exact ⟨0, by simp, by simpa using h⟩
      · exact ⟨i + 1, by simpa using hi, by simpa only [List.getElem_cons_succ, show v + ((i + 1 : Nat) : Int) = v + 1 + i by omega] using h⟩
    · rintro ⟨i, hi, h⟩
      cases i with
      | zero => left; simpa using h
      | succ i => exact Or.inr ⟨i, by simpa using hi, by simpa only [List.getElem_cons_succ, show v + ((i + 1 : Nat) : Int) = v + 1 + i by omega] using h⟩
/-- A circuit, its inputs' values, some literals. -/
structure Circ (inp : Int) (gs : List S62) (input : List Bool) (lits : List Int) : Prop where
  gv : gValid inp gs = true
  lo : litsOk (1 + inp + gs.length) lits = true
  il : (input.length : Int) = inp
  gl : gs.length ≤ 40
  ll : lits.length ≤ 40
variable {inp : Int} {gs : List S62} {input : List Bool} {lits : List Int}
theorem Circ.gate (h : Circ inp gs input lits) (i : Nat) (hi : i < gs.length) : 2 ≤ gs[i].f0 ∧ gs[i].f0 < gs[i].f1 ∧ gs[i].f1 < 2 * (1 + inp + i) ∧ gs[i].f1 ≠ notI gs[i].f0 := by
  have hg := h.gv
  unfold gValid at hg
  simp only [Bool.and_eq_true] at hg
  have h1 := gOk_get gs _ _ hg.2.2.2 i hi
  exact ⟨h1.1, h1.2.1, h1.2.2, gOk_not gs _ _ hg.2.2.2 i hi⟩
theorem Circ.vals (h : Circ inp gs input lits) : (false :: input) <+: evG (false :: input) gs ∧ (evG (false :: input) gs).length = 1 + inp.toNat + gs.length ∧ ∀ (i : Nat) (hi : i < gs.length), (evG (false :: input) gs).getD (1 + inp.toNat + i) false = (lv (evG (false :: input) gs) gs[i].f0 && lv (evG (false :: input) gs) gs[i].f1) := by
  have hil := h.il
  obtain ⟨h1, h2, h3⟩ := evG_spec gs (false :: input) (fun i hi => by
    have := h.gate i hi
    simp only [List.length_cons]
    omega)
  have e : (false :: input).length = 1 + inp.toNat := by simp only [List.length_cons]; omega
  rw [e] at h2 h3
  exact ⟨h1, h2, h3⟩
theorem Circ.inpR (h : Circ inp gs input lits) : 0 ≤ inp ∧ inp ≤ 1024 := by have := gValid_iff inp gs h.gv; omega
/-- The three clauses of a gate, in members. -/
theorem Circ.cls (h : Circ inp gs input lits) (i : Nat) (hi : i < gs.length) : (Inc (addC [-(inp + 2 + i), litC gs[i].f0]) ∧ ∀ y, y ∈ addC [-(inp + 2 + i), litC gs[i].f0] ↔ y = -(inp + 2 + i) ∨ y = litC gs[i].f0) ∧ (Inc (addC [-(inp + 2 + i), litC gs[i].f1]) ∧ ∀ y, y ∈ addC [-(inp + 2 + i), litC gs[i].f1] ↔ y = -(inp + 2 + i) ∨ y = litC gs[i].f1) ∧
    (Inc (addC [inp + 2 + i, -litC gs[i].f0, -litC gs[i].f1]) ∧ ∀ y, y ∈ addC [inp + 2 + i, -litC gs[i].f0, -litC gs[i].f1] ↔ y = inp + 2 + i ∨ y = -litC gs[i].f0 ∨ y = -litC gs[i].f1) := by
  obtain ⟨g0, g1, g2, g3⟩ := h.gate i hi
  have hr := h.inpR
  have hgl := h.gl
  have ha := litC_range (x := gs[i].f0) (n := 1 + inp + i) (by omega) (by omega) (by omega)
  have hb := litC_range (x := gs[i].f1) (n := 1 + inp + i) (by omega) (by omega) (by omega)
  have hne : litC gs[i].f0 ≠ -litC gs[i].f1 := by
    rw [litC_eq (by omega) (by omega), litC_eq (by omega) (by omega)]
    rw [notI_eq (by omega) (by omega)] at g3
    split at g3 <;> split <;> split <;> omega
  generalize litC gs[i].f0 = p at ha hne ⊢
  generalize litC gs[i].f1 = q at hb hne ⊢
  refine ⟨?_, ?_, ?_⟩
  · have := addC_mem (l := [-(inp + 2 + i), p]) (by simp only [List.mem_cons, List.not_mem_nil, or_false]; rintro x (rfl | rfl) <;> omega) (by simp only [List.mem_cons, List.not_mem_nil, or_false]; rintro x (rfl | rfl) <;> omega)
    simpa using this
  · have := addC_mem (l := [-(inp + 2 + i), q]) (by simp only [List.mem_cons, List.not_mem_nil, or_false]; rintro x (rfl | rfl) <;> omega) (by simp only [List.mem_cons, List.not_mem_nil, or_false]; rintro x (rfl | rfl) <;> omega)
    simpa using this
  · have := addC_mem (l := [inp + 2 + i, -p, -q]) (by simp only [List.mem_cons, List.not_mem_nil, or_false]; rintro x (rfl | rfl | rfl) <;> omega) (by simp only [List.mem_cons, List.not_mem_nil, or_false]; rintro x (rfl | rfl | rfl) <;> omega)
    simpa using this
theorem Circ.lits_ (h : Circ inp gs input lits) {x : Int} (hx : x ∈ lits) : 0 ≤ x ∧ x < 2 * (1 + inp + gs.length) := by
  have := h.lo
  unfold litsOk at this
  exact of_decide_eq_true (List.all_eq_true.1 this x hx)
theorem Circ.one (h : Circ inp gs input lits) {x : Int} (hx : x ∈ lits) : addC [litC x] = [litC x] ∧ 1 ≤ (litC x).natAbs ∧ ((litC x).natAbs : Int) ≤ 1 + inp + gs.length := by
  have h1 := h.lits_ hx
  have hr := h.inpR
  have hgl := h.gl
  have h2 := litC_range (x := x) (n := 1 + inp + gs.length) h1.1 h1.2 (by omega)
  exact ⟨addC_one h2.1 h2.2 (by omega), h2⟩
theorem mem_trF {c : List Int} : c ∈ trF inp gs lits ↔ c = [-1] ∨ c ∈ trGates (inp + 2) gs ∨ ∃ x ∈ lits, c = addC [litC x] := by
  unfold trF
  simp only [List.mem_append, List.mem_singleton, List.mem_map, or_assoc]
  constructor
  · rintro (h | h | ⟨x, h1, h2⟩)
    · exact Or.inl h
    · exact Or.inr (Or.inl h)
    · exact Or.inr (Or.inr ⟨x, h1, h2.symm⟩)
  · rintro (h | h | ⟨x, h1, h2⟩)
    · exact Or.inl h
    · exact Or.inr (Or.inl h)
    · exact Or.inr (Or.inr ⟨x, h1, h2.symm⟩)
theorem Circ.valid (h : Circ inp gs input lits) : validC (1 + inp + gs.length) (trF inp gs lits) = true := by
  have hr := h.inpR
  have hgl := h.gl
  have hll := h.ll
  rw [validC_iff]
  refine ⟨⟨by omega, by omega, ?_⟩, fun c hc => (clauseOk_iff _ c).2 ?_⟩
  · unfold trF
    simp only [List.length_append, List.length_map, trGates_length, List.length_cons, List.length_nil]
    omega
  · rcases mem_trF.1 hc with rfl | hc | ⟨x, hx, rfl⟩
    · refine ⟨by simp [Inc], fun l hl => ?_⟩
      rw [List.mem_singleton.1 hl]
      omega
    · obtain ⟨i, hi, hc⟩ := (trGates_mem gs (inp + 2) c).1 hc
      obtain ⟨g0, g1, g2, g3⟩ := h.gate i hi
      obtain ⟨⟨i1, m1⟩, ⟨i2, m2⟩, ⟨i3, m3⟩⟩ := h.cls i hi
      have ha := litC_range (x := gs[i].f0) (n := 1 + inp + i) (by omega) (by omega) (by omega)
      have hb := litC_range (x := gs[i].f1) (n := 1 + inp + i) (by omega) (by omega) (by omega)
      rcases hc with rfl | rfl | rfl
      · refine ⟨i1, fun l hl => ?_⟩
        rcases (m1 l).1 hl with rfl | rfl <;> omega
      · refine ⟨i2, fun l hl => ?_⟩
        rcases (m2 l).1 hl with rfl | rfl <;> omega
      · refine ⟨i3, fun l hl => ?_⟩
        rcases (m3 l).1 hl with rfl | rfl | rfl <;> omega
    · obtain ⟨h1, h2, h3⟩ := h.one hx
      rw [h1]
      refine ⟨by simp [Inc], fun l hl => ?_⟩
      rw [List.mem_singleton.1 hl]
      omega
/-- What propagation starts from: the inputs' values. -/
def startOf (input : List Bool) : List Int := modelOf 1 input
theorem Circ.start (h : Circ inp gs input lits) : (startOf input).all (startOk (1 + inp + gs.length)) = true := by
  have hil := h.il
  refine List.all_eq_true.2 fun l hl => ?_
  obtain ⟨j, hj, rfl⟩ := mem_modelOf.1 hl
  have := vl_abs (1 + j) input[j]
  unfold startOk
  refine decide_eq_true ?_
  omega
theorem Circ.startM (h : Circ inp gs input lits) : ∀ l ∈ startOf input, l ∈ modelOf 0 (evG (false :: input) gs) := by
  intro l hl
  obtain ⟨j, hj, rfl⟩ := mem_modelOf.1 hl
  obtain ⟨t, ht⟩ := h.vals.1
  rw [← ht]
  refine mem_modelOf.2 ⟨j + 1, by simp; omega, ?_⟩
  rw [show 0 + (j + 1) = 1 + j by omega]
  congr 1
  simp [List.getElem_append_left (show j < input.length from hj)]
theorem vl_neg (j : Nat) (b : Bool) : -vl j b = vl j (!b) := by unfold vl; cases b <;> simp
/-- A gate's clauses give its value. -/
theorem Circ.derive (h : Circ inp gs input lits) : ∀ (j : Nat) (hj : j < (evG (false :: input) gs).length), UP (trF inp gs lits) (startOf input) (vl j (evG (false :: input) gs)[j]) := by
  obtain ⟨hp, hlen, hg⟩ := h.vals
  have hr := h.inpR
  have hil := h.il
  have hgl := h.gl
  obtain ⟨vs, hvs⟩ : ∃ vs, vs = evG (false :: input) gs := ⟨_, rfl⟩
  rw [← hvs] at hp hlen hg ⊢
  intro j
  induction j using Nat.strongRecOn with
  | _ j ih =>
    intro hj
    by_cases c0 : j = 0
    · subst c0
      obtain ⟨t, ht⟩ := hp
      have e : vs[0] = false := by simp [← ht]
      rw [e]
      exact UP.unit (c := [-1]) (mem_trF.2 (Or.inl rfl)) (by simp [vl]) (fun x hx hne => absurd (List.mem_singleton.1 hx) (by simpa [vl] using hne))
    · by_cases c1 : j < 1 + inp.toNat
      · refine UP.start (mem_modelOf.2 ⟨j - 1, by omega, ?_⟩)
        obtain ⟨t, ht⟩ := hp
        rw [show 1 + (j - 1) = j by omega]
        congr 1
        have hj' : j < (false :: input).length := by simp only [List.length_cons]; omega
        have e : vs[j] = (false :: input)[j] := by
          subst ht
          rw [List.getElem_append_left hj']
        rw [e, List.getElem_cons]
        simp [c0]
      · obtain ⟨i, hi⟩ : ∃ i, j = 1 + inp.toNat + i := ⟨j - (1 + inp.toNat), by omega⟩
        subst hi
        have hi : i < gs.length := by omega
        obtain ⟨g0, g1, g2, g3⟩ := h.gate i hi
        obtain ⟨⟨_, m1⟩, ⟨_, m2⟩, ⟨_, m3⟩⟩ := h.cls i hi
        -- what is known of the two literals
        have known : ∀ x : Int, 2 ≤ x → x < 2 * (1 + inp + i) → UP (trF inp gs lits) (startOf input) (if lv vs x then litC x else -litC x) := fun x hx0 hx1 => by
          have hlt : (x / 2).toNat < 1 + inp.toNat + i := by omega
          rw [lit_vl (vs := vs) (by omega) (by omega) (by omega)]
          have := ih _ hlt (by omega)
          rwa [List.getD_eq_getElem?_getD, List.getElem?_eq_getElem (by omega)]
        have ka := known gs[i].f0 (by omega) (by omega)
        have kb := known gs[i].f1 (by omega) (by omega)
        have hv : vs[1 + inp.toNat + i] = (lv vs gs[i].f0 && lv vs gs[i].f1) := by
          have := hg i hi
          rwa [List.getD_eq_getElem?_getD, List.getElem?_eq_getElem hj] at this
        have mem : ∀ c, (c = addC [-(inp + 2 + i), litC gs[i].f0] ∨ c = addC [-(inp + 2 + i), litC gs[i].f1] ∨ c = addC [inp + 2 + i, -litC gs[i].f0, -litC gs[i].f1]) → c ∈ trF inp gs lits := fun c hc => mem_trF.2 (Or.inr (Or.inl ((trGates_mem gs _ c).2 ⟨i, hi, hc⟩)))
        have en : ((1 + inp.toNat + i : Nat) : Int) + 1 = inp + 2 + i := by omega
        rw [hv]
        unfold vl
        rw [en]
        cases ba : lv vs gs[i].f0 with
        | false =>
          rw [ba] at ka
          simp only [Bool.false_eq_true, if_false] at ka
          simp only [Bool.false_and, Bool.false_eq_true, if_false]
          refine UP.unit (mem _ (Or.inl rfl)) ((m1 _).2 (Or.inl rfl)) (fun x hx hne => ?_)
          rw [((m1 x).1 hx).resolve_left hne]
          exact ka
        | true =>
          rw [ba] at ka
          cases bb : lv vs gs[i].f1 with
          | false =>
            rw [bb] at kb
            simp only [Bool.false_eq_true, if_false] at kb
            simp only [Bool.and_false, Bool.false_eq_true, if_false]
            refine UP.unit (mem _ (Or.inr (Or.inl rfl))) ((m2 _).2 (Or.inl rfl)) (fun x hx hne => ?_)
            rw [((m2 x).1 hx).resolve_left hne]
            exact kb
          | true =>
            rw [bb] at kb
            simp only [if_true] at ka kb
            simp only [Bool.and_true, if_true]
            refine UP.unit (mem _ (Or.inr (Or.inr rfl))) ((m3 _).2 (Or.inl rfl)) (fun x hx hne => ?_)
            rcases ((m3 x).1 hx).resolve_left hne with rfl | rfl
            · rw [Int.neg_neg]; exact ka
            · rw [Int.neg_neg]; exact kb
theorem Circ.up (h : Circ inp gs input lits) {l : Int} (hl : l ∈ modelOf 0 (evG (false :: input) gs)) : UP (trF inp gs lits) (startOf input) l := by
  obtain ⟨j, hj, rfl⟩ := mem_modelOf.1 hl
  rw [Nat.zero_add]
  exact h.derive j hj
theorem mAt_of {m : List Int} {j : Nat} {l : Int} (h : m[j]? = some l) (hj : l.natAbs = j + 1) : mAt m l = true := by
  unfold mAt
  refine decide_eq_true ?_
  unfold rd
  rw [List.getD_eq_getElem?_getD, show ((l.natAbs : Int) - 1).toNat = j by omega, h]
  rfl
theorem mAt_model {vs : List Bool} {l : Int} (h : l ∈ modelOf 0 vs) : mAt (modelOf 0 vs) l = true := by
  obtain ⟨j, hj, rfl⟩ := mem_modelOf.1 h
  refine mAt_of (j := j) ?_ (by rw [vl_abs]; omega)
  rw [modelOf_get, List.getElem?_eq_getElem hj]
  rfl
theorem Circ.holds (h : Circ inp gs input lits) (hr : lits.all (lv (evG (false :: input) gs)) = true) : holdsC (1 + inp + gs.length) (trF inp gs lits) (modelOf 0 (evG (false :: input) gs)) = true := by
  obtain ⟨hp, hlen, hg⟩ := h.vals
  have hrr := h.inpR
  have hgl := h.gl
  obtain ⟨vs, hvs⟩ : ∃ vs, vs = evG (false :: input) gs := ⟨_, rfl⟩
  rw [← hvs] at hp hlen hg hr ⊢
  unfold holdsC
  rw [h.valid, modelOf_ok, decide_eq_true (by rw [modelOf_len]; omega)]
  simp only [Bool.true_and, List.all_eq_true]
  intro c hc
  rw [List.any_eq_true]
  rcases mem_trF.1 hc with rfl | hc | ⟨x, hx, rfl⟩
  · refine ⟨-1, by simp, mAt_model (mem_modelOf.2 ⟨0, by omega, ?_⟩)⟩
    obtain ⟨t, ht⟩ := hp
    have e : vs[0]'(by omega) = false := by simp [← ht]
    rw [e]
    rfl
  · obtain ⟨i, hi, hc⟩ := (trGates_mem gs (inp + 2) c).1 hc
    obtain ⟨g0, g1, g2, g3⟩ := h.gate i hi
    obtain ⟨⟨_, m1⟩, ⟨_, m2⟩, ⟨_, m3⟩⟩ := h.cls i hi
    have ka := lit_model (vs := vs) (x := gs[i].f0) (by omega) (by omega) (by omega)
    have kb := lit_model (vs := vs) (x := gs[i].f1) (by omega) (by omega) (by omega)
    have hj : 1 + inp.toNat + i < vs.length := by omega
    have hv : vs[1 + inp.toNat + i] = (lv vs gs[i].f0 && lv vs gs[i].f1) := by
      have := hg i hi
      rwa [List.getD_eq_getElem?_getD, List.getElem?_eq_getElem hj] at this
    have km : vl (1 + inp.toNat + i) (lv vs gs[i].f0 && lv vs gs[i].f1) ∈ modelOf 0 vs := mem_modelOf.2 ⟨_, hj, by rw [Nat.zero_add, hv]⟩
    have en : ((1 + inp.toNat + i : Nat) : Int) + 1 = inp + 2 + i := by omega
    unfold vl at km
    rw [en] at km
    cases ba : lv vs gs[i].f0 with
    | false =>
      rw [ba] at ka km
      simp only [Bool.false_and, Bool.false_eq_true, if_false] at ka km
      rcases hc with rfl | rfl | rfl
      · exact ⟨_, (m1 _).2 (Or.inl rfl), mAt_model km⟩
      · exact ⟨_, (m2 _).2 (Or.inl rfl), mAt_model km⟩
      · exact ⟨_, (m3 _).2 (Or.inr (Or.inl rfl)), mAt_model ka⟩
    | true =>
      rw [ba] at ka km
      simp only [if_true] at ka
      cases bb : lv vs gs[i].f1 with
      | false =>
        rw [bb] at kb km
        simp only [Bool.and_false, Bool.false_eq_true, if_false] at kb km
        rcases hc with rfl | rfl | rfl
        · exact ⟨_, (m1 _).2 (Or.inl rfl), mAt_model km⟩
        · exact ⟨_, (m2 _).2 (Or.inl rfl), mAt_model km⟩
        · exact ⟨_, (m3 _).2 (Or.inr (Or.inr rfl)), mAt_model kb⟩
      | true =>
        rw [bb] at kb km
        simp only [Bool.and_true, if_true] at kb km
        rcases hc with rfl | rfl | rfl
        · exact ⟨_, (m1 _).2 (Or.inr rfl), mAt_model ka⟩
        · exact ⟨_, (m2 _).2 (Or.inr rfl), mAt_model kb⟩
        · exact ⟨_, (m3 _).2 (Or.inl rfl), mAt_model km⟩
  · rw [(h.one hx).1]
    have h1 := h.lits_ hx
    have := lit_model (vs := vs) (x := x) (by omega) (by omega) (by omega)
    rw [if_pos (List.all_eq_true.1 hr x hx)] at this
    exact ⟨_, List.mem_singleton.2 rfl, mAt_model this⟩
theorem Circ.clash (h : Circ inp gs input lits) (hr : lits.all (lv (evG (false :: input) gs)) = false) : Clash (trF inp gs lits) (startOf input) := by
  obtain ⟨hp, hlen, hg⟩ := h.vals
  have hrr := h.inpR
  have hgl := h.gl
  obtain ⟨x, hx, hv⟩ := List.all_eq_false.1 hr
  have h1 := h.lits_ hx
  have hm := lit_model (vs := evG (false :: input) gs) (x := x) (by omega) (by omega) (by omega)
  rw [if_neg hv] at hm
  refine Or.inl ⟨litC x, ?_, h.up hm⟩
  have e := (h.one hx).1
  exact UP.unit (c := [litC x]) (mem_trF.2 (Or.inr (Or.inr ⟨x, hx, e.symm⟩))) (List.mem_singleton.2 rfl) (fun y hy hne => absurd (List.mem_singleton.1 hy) hne)
/-- What the law compares. -/
theorem Circ.law (h : Circ inp gs input lits) {r : List Int × Bool × Int} (hr : PropRes (1 + inp + gs.length) (trF inp gs lits) (startOf input) r) :
    r.2.2 = 0 ∧ r.2.1 = lits.all (lv (evG (false :: input) gs)) ∧ holdsC (1 + inp + gs.length) (trF inp gs lits) (modelOf 0 (evG (false :: input) gs)) = lits.all (lv (evG (false :: input) gs)) ∧ (lits.all (lv (evG (false :: input) gs)) = true → r.1 = modelOf 0 (evG (false :: input) gs)) := by
  unfold PropRes at hr
  rw [if_pos ⟨h.valid, h.start⟩] at hr
  obtain ⟨h0, h1, h2⟩ := hr
  cases hb : lits.all (lv (evG (false :: input) gs)) with
  | true =>
    have hh := h.holds hb
    obtain ⟨a, b, c⟩ := h2 (no_clash hh h.startM)
    refine ⟨h0, a, hh, fun _ => inc_ext _ _ b (modelOf_inc _ 0).1 fun l => ?_⟩
    rw [c l]
    exact ⟨fun hu => hu.sound hh h.startM, fun hl => h.up hl⟩
  | false =>
    have hc := h.clash hb
    refine ⟨h0, (h1 hc).2, ?_, by simp⟩
    cases hh : holdsC (1 + inp + gs.length) (trF inp gs lits) (modelOf 0 (evG (false :: input) gs)) with
    | false => rfl
    | true => exact absurd hc (no_clash hh h.startM)
end Go.Proofs.YteaohgebocbehaaGreatDoor.Plain
end
section
/- gates.known, gates.Eval: the walks. Conditions: a circuit of at most 2^20 gates, as many inputs' values as inputs, at most 2^20 literals. -/
set_option linter.unusedVariables false
set_option linter.unusedSimpArgs false
namespace Go.Proofs.YteaohgebocbehaaGreatDoor.Hand
open Go.RowKit Go.Lib Go.Shelf Go.Proofs.YteaohgebocbehaaGreatDoor.Reg Go.Proofs.YteaohgebocbehaaGreatDoorW Go.Proofs.YteaohgebocbehaaGreatDoorW.PrintWords Go.Proofs.YteaohgebocbehaaGreatDoorW.PrintLast Go.Proofs.YteaohgebocbehaaGreatDoorW.PrintMore Go.Proofs.YteaohgebocbehaaGreatDoor.Plain Go.Proofs.YteaohgebocbehaaGreatDoor.XA Go.Proofs.YteaohgebocbehaaGreatDoor.Fam
attribute [local go_sem] max2_int min2_int max_two min_two max_three min_three max_four min_four
abbrev kB : Kd Bool := Kd.bool
set_option maxHeartbeats 4000000 in
set_option maxRecDepth 100000 in
theorem bliteral_calls (gb : Nat) (inp : Int) (A : Option Addr) (c : Nat) (gs : List S62) (mv : Value) (Al : Option Addr) (cl : Nat) (l : List Int) (w : World) (hb : w.heap[gb]? = some (.cells #[.int .i64 inp, .slice A gs.length c, mv, .int .i64 0] 112 (0, 0))) (hr : k62.C w A gs.length gs) (hc : gs.length ≤ c) (hf : gs.length ≤ 1048576) (h0 : 0 ≤ inp) (h1 : inp ≤ 1024) (hrl : kI.C w Al l.length l) (hll : l.length ≤ 1048576) :
    Calls Tryz.prog 89 #[.pointer (some ⟨gb, 0, none⟩), .slice Al l.length cl] w fun e w' => e = .returned (.bool (litsOk (1 + inp + gs.length) l)) ∧ Below w.heap.size w w' := by
  have HB := Aside0.mk hb
  have HR := Aside0.mk hr
  have HC := Aside0.mk hc
  have HF := Aside0.mk hf
  have HI := Aside0.mk (And.intro h0 h1)
  have HRL := Aside0.mk hrl
  have HLL := Aside0.mk hll
  obtain ⟨nn, hnn⟩ : ∃ a : Int, a = 1 + inp + gs.length := ⟨_, rfl⟩
  obtain ⟨n2, hn2⟩ : ∃ a : Int, a = 2 * nn := ⟨_, rfl⟩
  have k3 : IntKind.i64.wrap (2 * nn) = n2 := (IntWalk.i64_in _ (by omega)).trans hn2.symm
  have k3' : wrap64 (2 * nn) = n2 := by unfold wrap64; omega
  have HNN := Aside0.mk (And.intro hnn hn2)
  rw [← hnn]
  obtain ⟨res, hres⟩ : ∃ b, b = litsOk nn l := ⟨_, rfl⟩
  rw [← hres]
  have HRES := Aside0.mk hres
  clear hb hr hc hf h0 h1 hrl hll hnn hn2 hres
  go_enter Tryz.func89, Tryz.ntmps89
  go_wp2
  go_loopw [9] (fun v9 wr => ∃ x : Int, v9 = .int .i64 x ∧ Aside0 (0 ≤ x ∧ x ≤ l.length ∧ res = litsOk nn (l.drop x.toNat)) ∧ Aside0 (Below w.heap.size w wr)) (fun v9 _ => l.length - (intOf v9).toNat)
  case atStart => exact ⟨0, rfl, ⟨by omega, by omega, HRES.out⟩, ⟨Below.refl _ _⟩⟩
  case round =>
    obtain ⟨x, rfl, HX, HW⟩ := hrel
    by_cases c1 : x < (l.length : Int)
    · have hlm := HLL.out
      have p0 := HX.out.1
      obtain ⟨ad, e1, hx0⟩ := Kd.at_int HRL.out x p0 c1
      cases e1
      have hx1 := (HW.out.cell (World.block_lt_of_cell? w _ hx0)).trans hx0
      have hst : litsOk nn (l.drop x.toNat) = (decide (0 ≤ PrintWords.rd l x ∧ PrintWords.rd l x < 2 * nn) && litsOk nn (l.drop (x + 1).toNat)) := by
        rw [drop_rd p0 c1]
        rfl
      obtain ⟨y, hy⟩ : ∃ y, y = PrintWords.rd l x := ⟨_, rfl⟩
      rw [← hy] at hst hx1
      obtain ⟨a, ha⟩ : ∃ a : Int, a = x + 1 := ⟨_, rfl⟩
      have ka : IntKind.i64.wrap (x + 1) = a := (IntWalk.i64_in _ (by omega)).trans ha.symm
      have ka2 : wrap64 (x + 1) = a := by unfold wrap64; omega
      have h1 : decide (x < (l.length : Int)) = true := decide_eq_true c1
      have p1 : (0 ≤ x) = True := eq_true p0
      have q1 : (x < (l.length : Int)) = True := eq_true c1
      rw [← ha] at hst
      have HBR := blk_below HB.out HW.out
      have b0 : wr.cell? ⟨gb, 0, none⟩ = some (.int .i64 inp) := (blk_cell HBR 0).trans rfl
      have b1 : wr.cell? ⟨gb, 1, none⟩ = some (.slice A gs.length c) := (blk_cell HBR 1).trans rfl
      have hnc := nodes_calls inp A c gs wr (Kd.C_below HR.out HW.out) HC.out (by have := HF.out; omega) HI.out.1 HI.out.2
      rw [← HNN.out.1] at hnc
      have HNC := Aside0.mk hnc
      have HST := Aside0.mk hst
      have HA := Aside0.mk ha
      have C1 := Aside0.mk c1
      clear ha c1 hx0 p0 hlm hst hy hnc HBR
      by_cases t2 : y < 0
      · have u1 : decide (y < 0) = true := decide_eq_true t2
        have HE := Aside0.mk (show res = false by rw [HX.out.2.2, HST.out, decide_eq_false (by omega)]; rfl)
        clear t2
        go_wp2
        go_ret
        exact ⟨by rw [HE.out]; rfl, HW.out⟩
      · have u1 : decide (y < 0) = false := decide_eq_false t2
        by_cases t3 : n2 ≤ y
        · have u2 : decide (n2 ≤ y) = true := decide_eq_true t3
          have HE := Aside0.mk (show res = false by rw [HX.out.2.2, HST.out, decide_eq_false (by have := HNN.out; omega)]; rfl)
          clear t2 t3
          go_wp2_with (go_at_call 79; refine HNC.out.mono ?_; rintro e w2 ⟨rfl, hb⟩; have HB2 := Aside0.mk hb; clear hb)
          go_ret
          exact ⟨by rw [HE.out]; rfl, below_step HW.out HB2.out⟩
        · have u2 : decide (n2 ≤ y) = false := decide_eq_false t3
          have HT := Aside0.mk (show decide (0 ≤ y ∧ y < 2 * nn) = true from decide_eq_true (by have := HNN.out; omega))
          clear t2 t3
          go_wp2_with (go_at_call 79; refine HNC.out.mono ?_; rintro e w2 ⟨rfl, hb⟩; have HB2 := Aside0.mk hb; clear hb)
          go_roundw
          case rel => exact ⟨a, rfl, ⟨by have := HA.out; have := HX.out.1; omega, by have := HA.out; have := C1.out; omega, by rw [HX.out.2.2, HST.out, HT.out, Bool.true_and]⟩, ⟨below_step HW.out HB2.out⟩⟩
          case measure =>
            have := C1.out; have := HX.out.1; have := HA.out
            simp [intOf]; omega
    · have h1 : decide (x < (l.length : Int)) = false := decide_eq_false c1
      have HE := Aside0.mk (show res = true by rw [HX.out.2.2, List.drop_eq_nil_of_le (by omega)]; rfl)
      clear c1
      go_wp2
      go_ret
      exact ⟨by rw [HE.out]; rfl, HW.out⟩
set_option maxHeartbeats 4000000 in
set_option maxRecDepth 100000 in
theorem known_calls (inp : Int) (A : Option Addr) (c : Nat) (gs : List S62) (Al : Option Addr) (cl : Nat) (l : List Int) (w : World) (hr : k62.C w A gs.length gs) (hc : gs.length ≤ c) (hf : gs.length ≤ 1048576) (hrl : kI.C w Al l.length l) (hll : l.length ≤ 1048576) (res : Bool) (hres : res = (gValid inp gs && litsOk (1 + inp + gs.length) l)) :
    Calls Tryz.prog 73 #[.agg #[.int .i64 inp, .slice A gs.length c], .slice Al l.length cl] w fun e w' => e = .returned (.bool res) ∧ Below w.heap.size w w' := by
  have hu38 := Tryz.underlying38
  have HR := Aside0.mk hr
  have HC := Aside0.mk hc
  have HF := Aside0.mk hf
  have HRL := Aside0.mk hrl
  have HLL := Aside0.mk hll
  have HRES := Aside0.mk hres
  obtain ⟨vb, hvb⟩ : ∃ b, b = gValid inp gs := ⟨_, rfl⟩
  have HVB := Aside0.mk hvb
  clear hr hc hf hrl hll hres hvb
  go_enter Tryz.func73, Tryz.ntmps73
  cases vb with
  | false =>
    have HE := Aside0.mk (show res = false by rw [HRES.out, ← HVB.out]; rfl)
    go_wp2_with (first
      | (((with_reducible refine gate_dst (N := 2) rfl ?_); refine box_event ?hg (N := 2) ?hd (cs := #[.int .i64 inp, .slice A gs.length c]) (t := 38) ?hr ?_; (case hd => rfl); (case hg => rfl); (case hr => first | (go_simp; done) | (go_simp; rfl)); intro g2 hg_ w2 h1_ h2_; have BK2 := Aside0.mk h1_; have HB2 := Aside0.mk h2_; have GEg2 := Aside0.mk hg_; clear h1_ h2_ hg_); have q0 : w2.cell? ⟨g2, 0, none⟩ = some (.int .i64 inp) := (blk_cell BK2.out 0).trans rfl; have q1 : w2.cell? ⟨g2, 1, none⟩ = some (.slice A gs.length c) := (blk_cell BK2.out 1).trans rfl)
      | (((with_reducible refine gate_dst (N := 8) rfl ?_); refine box_event ?hg (N := 8) ?hd (cs := #[.int .i64 inp, .slice A gs.length c, .map none, .int .i64 0]) (t := 112) ?hr ?_; (case hd => rfl); (case hg => rfl); (case hr => first | (go_simp; done) | (go_simp; rfl)); intro g8 hg_ w3 h1_ h2_; have BK8 := Aside0.mk h1_; have HB8 := Aside0.mk h2_; have GEg8 := Aside0.mk hg_; clear h1_ h2_ hg_); have r0 : w3.cell? ⟨g2, 0, none⟩ = some (.int .i64 inp) := (blk_cell (blk_below BK2.out HB8.out) 0).trans rfl; have r1 : w3.cell? ⟨g2, 1, none⟩ = some (.slice A gs.length c) := (blk_cell (blk_below BK2.out HB8.out) 1).trans rfl)
      | (go_at_call 51; refine (show Calls Tryz.prog 51 #[.agg #[.int .i64 inp, .slice A gs.length c]] w3 (fun e w' => e = .returned (.bool false) ∧ Below w3.heap.size w3 w') from by rw [HVB.out]; exact GValid_calls inp A c gs w3 (Kd.C_below HR.out (below_step HB2.out HB8.out)) HC.out (by have := HF.out; omega)).mono ?_; rintro e w4 ⟨rfl, hb⟩; have HB4 := Aside0.mk hb; clear hb))
    go_ret
    exact ⟨by rw [HE.out]; rfl, below_step (below_step HB2.out HB8.out) HB4.out⟩
  | true =>
    have HE := Aside0.mk (show litsOk (1 + inp + gs.length) l = res by rw [HRES.out, ← HVB.out]; rfl)
    have HI := Aside0.mk (gValid_iff inp gs HVB.out.symm)
    go_wp2_with (first
      | (((with_reducible refine gate_dst (N := 2) rfl ?_); refine box_event ?hg (N := 2) ?hd (cs := #[.int .i64 inp, .slice A gs.length c]) (t := 38) ?hr ?_; (case hd => rfl); (case hg => rfl); (case hr => first | (go_simp; done) | (go_simp; rfl)); intro g2 hg_ w2 h1_ h2_; have BK2 := Aside0.mk h1_; have HB2 := Aside0.mk h2_; have GEg2 := Aside0.mk hg_; clear h1_ h2_ hg_); have q0 : w2.cell? ⟨g2, 0, none⟩ = some (.int .i64 inp) := (blk_cell BK2.out 0).trans rfl; have q1 : w2.cell? ⟨g2, 1, none⟩ = some (.slice A gs.length c) := (blk_cell BK2.out 1).trans rfl)
      | (((with_reducible refine gate_dst (N := 8) rfl ?_); refine box_event ?hg (N := 8) ?hd (cs := #[.int .i64 inp, .slice A gs.length c, .map none, .int .i64 0]) (t := 112) ?hr ?_; (case hd => rfl); (case hg => rfl); (case hr => first | (go_simp; done) | (go_simp; rfl)); intro g8 hg_ w3 h1_ h2_; have BK8 := Aside0.mk h1_; have HB8 := Aside0.mk h2_; have GEg8 := Aside0.mk hg_; clear h1_ h2_ hg_); have r0 : w3.cell? ⟨g2, 0, none⟩ = some (.int .i64 inp) := (blk_cell (blk_below BK2.out HB8.out) 0).trans rfl; have r1 : w3.cell? ⟨g2, 1, none⟩ = some (.slice A gs.length c) := (blk_cell (blk_below BK2.out HB8.out) 1).trans rfl)
      | (go_at_call 51; refine (show Calls Tryz.prog 51 #[.agg #[.int .i64 inp, .slice A gs.length c]] w3 (fun e w' => e = .returned (.bool true) ∧ Below w3.heap.size w3 w') from by rw [HVB.out]; exact GValid_calls inp A c gs w3 (Kd.C_below HR.out (below_step HB2.out HB8.out)) HC.out (by have := HF.out; omega)).mono ?_; rintro e w4 ⟨rfl, hb⟩; have HB4 := Aside0.mk (below_step (below_step HB2.out HB8.out) hb); have BK4 := Aside0.mk (blk_below BK8.out hb); clear hb)
      | (go_at_call 89; refine (show Calls Tryz.prog 89 #[.pointer (some ⟨g8, 0, none⟩), .slice Al l.length cl] w4 (fun e w' => e = .returned (.bool res) ∧ Below w4.heap.size w4 w') from by rw [← HE.out]; exact bliteral_calls g8 inp A c gs (.map none) Al cl l w4 BK4.out (Kd.C_below HR.out HB4.out) HC.out HF.out HI.out.1 HI.out.2.1 (Kd.C_below HRL.out HB4.out) HLL.out).mono ?_; rintro e w5 ⟨rfl, hb⟩; have HB5 := Aside0.mk (below_step HB4.out hb); clear hb))
    go_ret
    exact ⟨rfl, HB5.out⟩
set_option maxHeartbeats 4000000 in
set_option maxRecDepth 100000 in
theorem ev1_calls (g : Nat) (A : Option Addr) (c : Nat) (vs : List Bool) (x : Int) (W : World) (hb : W.heap[g]? = some (.cells #[.slice A vs.length c] 56 (0, 0))) (hr : kB.C W A vs.length vs) (h0 : 0 ≤ x) (h1 : x < 2 * vs.length) (hl : vs.length ≤ 1048576) (r : Bool) (hres : r = lv vs x) :
    Calls Tryz.prog 74 #[.int .i64 x, .pointer (some ⟨g, 0, none⟩)] W fun e w' => e = .returned (.bool r) ∧ w' = W := by
  have hcell : W.cell? ⟨g, 0, none⟩ = some (.slice A vs.length c) := (blk_cell hb 0).trans rfl
  obtain ⟨q, hq⟩ : ∃ q : Int, q = x / 2 := ⟨_, rfl⟩
  have kt : Int.tdiv x 2 = q := by rw [Int.tdiv_eq_ediv_of_nonneg h0, hq]
  have kq : IntKind.i64.wrap q = q := IntWalk.i64_in _ (by omega)
  have kq2 : wrap64 q = q := by unfold wrap64; omega
  have p0 : 0 ≤ q := by omega
  have c0 : q < (vs.length : Int) := by omega
  obtain ⟨ad, e1, hx0⟩ := Kd.at_bool hr q p0 c0
  cases e1
  have p1 : (0 ≤ q) = True := eq_true p0
  have q1 : (q < (vs.length : Int)) = True := eq_true c0
  have hm : Int.tmod x 2 = x % 2 := by rw [Int.tmod_eq_emod_of_nonneg h0]
  obtain ⟨z, hz⟩ : ∃ z : Int, z = x % 2 := ⟨_, rfl⟩
  rw [← hz] at hm
  have kz : IntKind.i64.wrap z = z := IntWalk.i64_in _ (by omega)
  have kz2 : wrap64 z = z := by unfold wrap64; omega
  have hrd : rdOf false vs q = vs.getD q.toNat false := rfl
  obtain ⟨b, hb2⟩ : ∃ b, b = rdOf false vs q := ⟨_, rfl⟩
  rw [← hb2] at hx0
  obtain ⟨zb, hzb⟩ : ∃ b, b = decide (z = 1) := ⟨_, rfl⟩
  have hz1 : (z == 1) = zb := by rw [hzb]; exact (Bool.beq_eq_decide_eq z 1)
  have HR := Aside0.mk (show r = (b != zb) by rw [hres, hzb, hz, hb2, hrd, hq]; rfl)
  clear hb hr h0 h1 hl hres hq p0 c0 hz hrd hb2 hzb
  go_enter Tryz.func74, Tryz.ntmps74
  go_wp2
  go_ret
  exact ⟨by rw [HR.out]; cases b <;> cases zb <;> rfl, rfl⟩
theorem bool_info : (Tryz.prog.info? 4).map (fun i => (i.zero, i.size, i.bytes)) = some (some (.bool false), 1, 1) := by kernel_rfl
theorem bools_size : (Tryz.prog.info? 56).map (·.size) = some 1 := by kernel_rfl
/-- The box of a list of truth values of the call's own, its row, the world since w. -/
structure BSt (w W : World) (g : Nat) (v : Value) (m : List Bool) : Prop where
  b : W.heap[g]? = some (.cells #[v] 56 (0, 0))
  row : kB.R 4 W w.heap.size (fun _ => True) v m
  below : Below w.heap.size w W
  old : w.heap.size ≤ g
theorem BSt.later {w W W' : World} {g : Nat} {v : Value} {m : List Bool} (h : BSt w W g v m) (hb : Below W.heap.size W W') : BSt w W' g v m := ⟨blk_below h.b hb, Kd.R_below h.row hb, below_step h.below hb, h.old⟩
theorem BSt.grow {w W W1 : World} {g : Nat} {v v1 : Value} {m : List Bool} {x : Bool} (h : BSt w W g v m) (ho : kB.R 4 W1 w.heap.size (fun _ => True) v1 (m ++ [x])) (hg : W.grownBy W1 v.ownBlock) (hb : Below w.heap.size w W1) :
    W1.heap[g]? = some (.cells #[v] 56 (0, 0)) ∧ BSt w (W1.setCell ⟨g, 0, none⟩ v1) g v1 (m ++ [x]) := by
  have hbox : W1.heap[g]? = some (.cells #[v] 56 (0, 0)) := blk_grown h.b hg (own_ne (Kd.own_of_R h.row) h.b (by decide))
  have hne := own_ne (Kd.own_of_R ho) hbox (by decide)
  exact ⟨hbox, (blk_set hbox 0 v1).trans rfl, Kd.R_of_own (own_move (Kd.own_of_R ho) (fun k hk => Below.heap_setCell W1 ⟨g, 0, none⟩ v1 k (fun e => hne (by rw [hk, e])))) (fun _ _ => trivial), hb.setCell (p := ⟨g, 0, none⟩) h.old _, h.old⟩
theorem BSt.C {w W : World} {g : Nat} {A : Option Addr} {len c : Nat} {m : List Bool} (h : BSt w W g (.slice A len c) m) : len = m.length ∧ len ≤ c ∧ kB.C W A m.length m := Kd.R_reads' h.row
theorem BSt.start {w3 w5 w6 w7 : World} {g8 : Nat} {v5 : Value} {m : List Bool} (ho : kB.R 4 w5 w3.heap.size (fun _ => True) v5 m) (hb5 : Below w3.heap.size w3 w5) (hb8 : Below w5.heap.size w5 w6) (hk : w6.heap[g8]? = some (.cells #[.slice none 0 0] 56 (0, 0))) (hg : g8 = w5.heap.size) (hw7 : w7 = w6.setCell ⟨g8, 0, none⟩ v5) : BSt w3 w7 g8 v5 m := by
  have h6 := Kd.R_below ho hb8
  have hne := own_ne (Kd.own_of_R h6) hk (by decide)
  have hold : w3.heap.size ≤ g8 := by rw [hg]; exact hb5.size
  rw [hw7]
  exact ⟨(blk_set hk 0 v5).trans rfl, Kd.R_of_own (own_move (Kd.own_of_R h6) (fun k hk => Below.heap_setCell w6 ⟨g8, 0, none⟩ v5 k (fun e => hne (by rw [hk, e])))) (fun _ _ => trivial), (below_step hb5 hb8).setCell (p := ⟨g8, 0, none⟩) hold _, hold⟩
/-- What a call of Eval$1 tells. -/
theorem BSt.ev {w W : World} {g : Nat} {A : Option Addr} {c : Nat} {m : List Bool} (h : BSt w W g (.slice A m.length c) m) {x : Int} (h0 : 0 ≤ x) (h1 : x < 2 * m.length) (hl : m.length ≤ 1048576) (r : Bool) (hres : r = lv m x) :
    Calls Tryz.prog 74 #[.int .i64 x, .pointer (some ⟨g, 0, none⟩)] W fun e w' => e = .returned (.bool r) ∧ w' = W := ev1_calls g A c m x W h.b h.C.2.2 h0 h1 hl r hres
theorem evG_snoc : ∀ (gs : List S62) (vs : List Bool) (g : S62), evG vs (gs ++ [g]) = evG vs gs ++ [lv (evG vs gs) g.f0 && lv (evG vs gs) g.f1]
  | [], vs, g => rfl
  | a :: t, vs, g => by simp only [List.cons_append, evG]; exact evG_snoc t _ g
theorem evG_len : ∀ (gs : List S62) (vs : List Bool), (evG vs gs).length = vs.length + gs.length
  | [], vs => rfl
  | a :: t, vs => by simp only [evG, evG_len t, List.length_append, List.length_cons, List.length_nil]; omega
set_option maxHeartbeats 16000000 in
set_option maxRecDepth 100000 in
theorem Eval_calls (inp : Int) (A : Option Addr) (c : Nat) (gs : List S62) (Ai : Option Addr) (ci : Nat) (input : List Bool) (Al : Option Addr) (cl : Nat) (l : List Int) (w : World) (hr : k62.C w A gs.length gs) (hc : gs.length ≤ c) (hf : gs.length ≤ 65536) (hri : kB.C w Ai input.length input) (hii : (input.length : Int) = inp) (hi10 : input.length ≤ 1024) (hrl : kI.C w Al l.length l) (hll : l.length ≤ 65536) (r : List Bool × Int) (hres : r = evalC inp gs input l) :
    Calls Tryz.prog 37 #[.agg #[.int .i64 inp, .slice A gs.length c], .slice Ai input.length ci, .slice Al l.length cl] w fun e w' => ∃ Ao co, e = .returned (.tuple #[.slice Ao r.1.length co, .int .i64 r.2]) ∧ r.1.length ≤ co ∧ kB.C w' Ao r.1.length r.1 ∧ Below w.heap.size w w' := by
  have hu38 := Tryz.underlying38
  have hu62 := Tryz.underlying62
  have HR := Aside0.mk hr
  have HC := Aside0.mk hc
  have HF := Aside0.mk hf
  have HRI := Aside0.mk hri
  have HII := Aside0.mk (And.intro hii hi10)
  have HRL := Aside0.mk hrl
  have HLL := Aside0.mk hll
  have HRES := Aside0.mk hres
  obtain ⟨kb, hkb⟩ : ∃ b, b = (gValid inp gs && litsOk (1 + inp + gs.length) l) := ⟨_, rfl⟩
  have HKB := Aside0.mk hkb
  have HKC : Aside0 (∀ W, Below w.heap.size w W → Calls Tryz.prog 73 #[.agg #[.int .i64 inp, .slice A gs.length c], .slice Al l.length cl] W fun e w' => e = .returned (.bool kb) ∧ Below W.heap.size W w') := ⟨fun W hW => known_calls inp A c gs Al cl l W (Kd.C_below hr hW) hc (by omega) (Kd.C_below hrl hW) (by omega) kb hkb⟩
  have hil : ((input.length : Int) == inp) = true := beq_iff_eq.2 hii
  have hin : ((input.length : Int) != inp) = false := by rw [bne, hil]; rfl
  clear hr hc hf hri hii hi10 hrl hll hres hkb
  go_enter Tryz.func37, Tryz.ntmps37
  cases kb with
  | false =>
    have HE := Aside0.mk (show r = ([], 1) by
      rw [HRES.out]
      unfold evalC
      rw [if_pos]
      have h := HKB.out.symm
      rcases Bool.and_eq_false_iff.1 h with h | h
      · exact Or.inl h
      · exact Or.inr h)
    go_wp2_with (first
      | (((with_reducible refine gate_dst (N := 3) rfl ?_); refine box_event ?hg (N := 3) ?hd (cs := #[.int .i64 inp, .slice A gs.length c]) (t := 38) ?hr ?_; (case hd => rfl); (case hg => rfl); (case hr => first | (go_simp; done) | (go_simp; rfl)); intro g2 hg_ w2 h1_ h2_; have BK2 := Aside0.mk h1_; have HB2 := Aside0.mk h2_; have GEg2 := Aside0.mk hg_; clear h1_ h2_ hg_); have q0 : w2.cell? ⟨g2, 0, none⟩ = some (.int .i64 inp) := (blk_cell BK2.out 0).trans rfl; have q1 : w2.cell? ⟨g2, 1, none⟩ = some (.slice A gs.length c) := (blk_cell BK2.out 1).trans rfl)
      | (go_at_call 73; refine (HKC.out w2 HB2.out).mono ?_; rintro e w3 ⟨rfl, hb⟩; have HB3 := Aside0.mk (below_step HB2.out hb); clear hb))
    go_ret2
    rw [HE.out]
    exact ⟨none, 0, rfl, Nat.le_refl _, (Kd.R_reads' (Kd.R_nil kB 4 w3 0 (fun _ => True))).2.2, HB3.out⟩
  | true =>
    have hgl := (Bool.and_eq_true _ _).mp HKB.out.symm
    have HG := Aside0.mk hgl
    have HI := Aside0.mk (gValid_iff inp gs hgl.1)
    have HE := Aside0.mk (show r = (l.map (lv (evG (false :: input) gs)), 0) by
      rw [HRES.out]
      unfold evalC
      rw [if_neg (by rw [hgl.1, hgl.2]; simp)])
    clear hgl
    go_upto_region 3 with (first
      | (((with_reducible refine gate_dst (N := 3) rfl ?_); refine box_event ?hg (N := 3) ?hd (cs := #[.int .i64 inp, .slice A gs.length c]) (t := 38) ?hr ?_; (case hd => rfl); (case hg => rfl); (case hr => first | (go_simp; done) | (go_simp; rfl)); intro g2 hg_ w2 h1_ h2_; have BK2 := Aside0.mk h1_; have HB2 := Aside0.mk h2_; have GEg2 := Aside0.mk hg_; clear h1_ h2_ hg_); have q0 : w2.cell? ⟨g2, 0, none⟩ = some (.int .i64 inp) := (blk_cell BK2.out 0).trans rfl; have q1 : w2.cell? ⟨g2, 1, none⟩ = some (.slice A gs.length c) := (blk_cell BK2.out 1).trans rfl)
      | (go_at_call 73; refine (HKC.out w2 HB2.out).mono ?_; rintro e w3 ⟨rfl, hb⟩; have HB3 := Aside0.mk (below_step HB2.out hb); have BL2 := Aside0.mk (blk_below BK2.out hb); have q20 : w3.cell? ⟨g2, 0, none⟩ = some (.int .i64 inp) := (blk_cell BL2.out 0).trans rfl; clear hb))
    have HRI3 := Aside0.mk (Kd.C_below HRI.out HB3.out)
    have HL5 : Aside0 (([false].length + input.length) * 1 ≤ 140737488355328) := ⟨by have := HII.out; simp only [List.length_cons, List.length_nil]; omega⟩
    go_upto_region 5 with (first
      | ((with_reducible refine gate_dst (N := 26) rfl ?_); refine Kd.R_lit kB _ 4 ?hg (N := 26) ?hd (xs := ([false] : List Bool)) (inner := [.bool false]) (ok := fun _ => True) (okp := fun _ => True) ?hr ?hp (fun _ hk => hk) trivial (Below.refl _ _) (Nat.le_refl _) (by simp) ?_; (case hd => rfl); (case hg => rfl); (case hr => first | (go_simp; done) | (go_simp; rfl)); (case hp => exact (Reps.one (show Kd.M kB _ _ _ (false) [.bool false] from rfl) (Reps.none _ _))); intro v4 w4 h1_ h2_ h3_ h4_; have HO4 := Aside0.mk h1_; have HB4 := Aside0.mk h2_; clear h1_ h2_ h3_ h4_)
      | (at_builtin; refine Kd.R_append_rows kB (Rr := kB.K w3) (w0 := w3) (W := w4) w3.heap.size rfl (.tmp 26) (.tmp 27) 56 4 (.bool false) 1 rfl Tryz.underlying56 bool_info rfl (by decide) (by decide) v4 [false] input Ai input.length ci (fun _ => True) (fun _ => False) rfl rfl HO4.out (Kd.C_below HRI3.out HB4.out) (fun _ _ h => h) (fun _ hk => hk.elim) (fun _ _ => trivial) HB4.out HB4.out.size HL5.out ?_; intro v5 w5 ho hb hg hat; have HO5 := Aside0.mk ho; have HB5 := Aside0.mk hb; clear ho hb hg hat)
      | (((with_reducible refine gate_dst (N := 8) rfl ?_); refine box_event ?hg (N := 8) ?hd (cs := #[.slice none 0 0]) (t := 56) ?hr ?_; (case hd => rfl); (case hg => rfl); (case hr => first | (go_simp; done) | (go_simp; rfl)); intro g8 hg_ w6 h1_ h2_; have BK8 := Aside0.mk h1_; have HB8 := Aside0.mk h2_; have GEg8 := Aside0.mk hg_; clear h1_ h2_ hg_); have f8 := blk_frozen BK8.out 0; have c8 : w6.cell? ⟨g8, 0, none⟩ = some (.slice none 0 0) := (blk_cell BK8.out 0).trans rfl)
      | ((with_reducible refine gate_ (.store 56 (.tmp 8) (.tmp 28)) rfl ?_); refine Fam.st_cell rfl rfl 56 (.tmp 8) (.tmp 28) rfl (g := g8) (i := 0) (T := 56) (cur := #[.slice none 0 0]) (u := v5) rfl rfl bools_size (by obtain ⟨A_, c_, e_⟩ := Kd.R_slice HO5.out; rw [e_]; rfl) (by obtain ⟨A_, c_, e_⟩ := Kd.R_slice HO5.out; rw [e_]; rfl) BK8.out (by decide) ?_; intro w7 hw7; have TS := Aside0.mk (BSt.start HO5.out HB5.out HB8.out BK8.out GEg8.out hw7); clear hw7))
    have BL27 := Aside0.mk (blk_below BL2.out TS.out.below)
    have q27 : w7.cell? ⟨g2, 1, none⟩ = some (.slice A gs.length c) := (blk_cell BL27.out 1).trans rfl
    clear HO4 HB4 HO5 HB5 BK8 HB8 GEg8 f8 c8 q0 q1 q20 HKC
    go_wp2
    go_loopw [33] (fun v33 wr => ∃ (x : Int) (v : Value), v33 = .int .i64 x ∧ Aside0 (0 ≤ x ∧ x ≤ gs.length) ∧ Aside0 (BSt w3 wr g8 v (evG (false :: input) (gs.take x.toNat)))) (fun v33 _ => gs.length - (intOf v33).toNat)
    case atStart => exact ⟨0, _, rfl, ⟨by omega, by omega⟩, TS⟩
    case round =>
      clear TS q27 BL27
      obtain ⟨x, v, rfl, HX, TS⟩ := hrel
      by_cases c3 : x < (gs.length : Int)
      · have hlm := HF.out
        have hi := HI.out
        have hii := HII.out
        have p0 := HX.out.1
        obtain ⟨ad, e1, hx0, hx1⟩ := at_T62 HR.out x p0 c3
        cases e1
        have hgv := gValid_get HG.out.1 p0 c3
        have htk := take62 p0 c3
        obtain ⟨a0, ha0⟩ : ∃ a0, a0 = (rd_T62 gs x).f0 := ⟨_, rfl⟩
        obtain ⟨a1, ha1⟩ : ∃ a1, a1 = (rd_T62 gs x).f1 := ⟨_, rfl⟩
        rw [← ha0, ← ha1] at hgv
        rw [← ha0] at hx0
        rw [← ha1] at hx1
        have hbw : Below w.heap.size w wr := below_step HB3.out TS.out.below
        replace hx0 := (hbw.cell (World.block_lt_of_cell? w _ hx0)).trans hx0
        replace hx1 := (hbw.cell (World.block_lt_of_cell? w _ hx1)).trans hx1
        have hsn := evG_snoc (gs.take x.toNat) (false :: input) (rd_T62 gs x)
        rw [← htk, ← ha0, ← ha1] at hsn
        have hlen := evG_len (gs.take x.toNat) (false :: input)
        simp only [List.length_cons, List.length_take] at hlen
        obtain ⟨vs, hvs⟩ : ∃ vs, vs = evG (false :: input) (gs.take x.toNat) := ⟨_, rfl⟩
        rw [← hvs] at hsn hlen TS
        obtain ⟨b, hb⟩ : ∃ a : Int, a = x + 1 := ⟨_, rfl⟩
        have kb : IntKind.i64.wrap (x + 1) = b := (IntWalk.i64_in _ (by omega)).trans hb.symm
        have kb' : wrap64 (x + 1) = b := by unfold wrap64; omega
        rw [← hb] at hsn
        have h3 : decide (x < (gs.length : Int)) = true := decide_eq_true c3
        have p1 : (0 ≤ x) = True := eq_true p0
        have q1 : (x < (gs.length : Int)) = True := eq_true c3
        obtain ⟨Av, cv, ev⟩ := Kd.R_slice TS.out.row
        subst ev
        obtain ⟨b0, hb0⟩ : ∃ b0, b0 = lv vs a0 := ⟨_, rfl⟩
        obtain ⟨b1, hb1⟩ : ∃ b1, b1 = lv vs a1 := ⟨_, rfl⟩
        rw [← hb0, ← hb1] at hsn
        have hc0 : ∀ W, BSt w3 W g8 (.slice Av vs.length cv) vs → Calls Tryz.prog 74 #[.int .i64 a0, .pointer (some ⟨g8, 0, none⟩)] W fun e w' => e = .returned (.bool b0) ∧ w' = W := fun W h => h.ev (by omega) (by omega) (by omega) b0 hb0
        have hc1 : ∀ W, BSt w3 W g8 (.slice Av vs.length cv) vs → Calls Tryz.prog 74 #[.int .i64 a1, .pointer (some ⟨g8, 0, none⟩)] W fun e w' => e = .returned (.bool b1) ∧ w' = W := fun W h => h.ev (by omega) (by omega) (by omega) b1 hb1
        have HC0 := Aside0.mk hc0
        have HC1 := Aside0.mk hc1
        have HSN := Aside0.mk hsn
        have HB := Aside0.mk hb
        have C3 := Aside0.mk c3
        have HPB : Aside0 ((vs.length + 1) * 1 ≤ 140737488355328) := ⟨by omega⟩
        clear hlm hi hii p0 hgv htk ha0 ha1 hbw hsn hlen hvs hb c3 hb0 hb1 hc0 hc1
        go_upto_region 8 with (first
          | ((with_reducible refine gate_dst (N := 11) rfl ?_); refine box_event ?hg (N := 11) ?hd (cs := #[.int .i64 0, .int .i64 0]) (t := 62) ?hr ?_; (case hd => rfl); (case hg => rfl); (case hr => first | (go_simp; done) | (go_simp; rfl)); intro g12 hg_ w10 h1_ h2_; have BK12 := Aside0.mk h1_; have HB10 := Aside0.mk h2_; have GEg12 := Aside0.mk hg_; clear h1_ h2_ hg_)
          | ((with_reducible refine gate_ (.store 62 (.tmp 11) (.tmp 36)) rfl ?_); refine st_box rfl rfl 62 (.tmp 11) (.tmp 36) rfl (g := g12) (T := 62) (cur := #[.int .i64 0, .int .i64 0]) (u := .agg #[.int .i64 a0, .int .i64 a1]) rfl rfl (BK12.out) size62 rfl (by simp [Value.cells, Value.oneCell']) ?_; intro w11 h1_ h2_; have BK13 := Aside0.mk h1_; have HG11 := Aside0.mk h2_; clear h1_ h2_))
        have TS11 : Aside0 (BSt w3 w11 g8 (.slice Av vs.length cv) vs) := ⟨by
          have hg := HG11.out
          have h1 := GEg12.out
          exact TS.out.later (below_grown HB10.out HB10.out.size hg (by omega))⟩
        clear TS BK12 HB10 HG11 GEg12 hx0 hx1
        have hst : ∀ W, Below w11.heap.size w11 W → ((W.cell? ⟨g8, 0, none⟩ = some (.slice Av vs.length cv) ∧ Aside0 (BSt w3 W g8 (.slice Av vs.length cv) vs)) ∧ W.cell? ⟨g12, 0, none⟩ = some (.int .i64 a0) ∧ W.cell? ⟨g12, 1, none⟩ = some (.int .i64 a1)) := fun W hW =>
          ⟨⟨(blk_cell (TS11.out.later hW).b 0).trans rfl, ⟨TS11.out.later hW⟩⟩, (blk_cell (blk_below BK13.out hW) 0).trans rfl, (blk_cell (blk_below BK13.out hW) 1).trans rfl⟩
        have HST := Aside0.mk hst
        clear hst
        have HSD := Aside0.mk (TS11.out.later (below_drewN w11 1))
        cases b0 with
        | false =>
          have HSN2 := Aside0.mk (show evG (false :: input) (gs.take b.toNat) = vs ++ [false] by rw [HSN.out]; rfl)
          refine start_ (n := 14) (S := fun W' => ((W'.cell? ⟨g8, 0, none⟩ = some (.slice Av vs.length cv) ∧ Aside0 (BSt w3 W' g8 (.slice Av vs.length cv) vs)) ∧ W'.cell? ⟨g12, 0, none⟩ = some (.int .i64 a0) ∧ W'.cell? ⟨g12, 1, none⟩ = some (.int .i64 a1))) (ds := [12, 13]) #[false, false, false, false, false, false, false, false, false, false, false, false, false, false] (by kernel_rfl) rfl rfl (HST.out _ (below_drewN w11 1)) (fun hHeld => ?_)
          refine take_ (i := 0) (N := some 37) (v := ?_) (a' := ?_) #[true, false, false, false, false, false, false, false, false, false, false, false, false, false] rfl rfl (by kernel_rfl) (fun _ _ _ h => h) (Or.inl ⟨by rfl, ?_⟩) hHeld ?_ ?_
          rotate_left
          · rintro w' ⟨⟨s0_, sB_⟩, s1_, s2_⟩
            go_simp
            with_reducible rfl
          rotate_left
          · simp only [Act.put, sA, sZ, sS, i64_w]
            rfl
          refine pure_ (i := 1) (N := some 38) (v := ?_) (a' := ?_) #[true, true, false, false, false, false, false, false, false, false, false, false, false, false] rfl rfl (by kernel_rfl) (fun _ _ _ h => h) (Or.inl ⟨by rfl, ?_⟩) ?_ ?_
          rotate_left
          · intro w'
            go_simp
            with_reducible rfl
          rotate_left
          · simp only [Act.put, sA, sZ, sS, i64_w]
            rfl
          refine pure_ (i := 2) (N := some 39) (v := ?_) (a' := ?_) #[true, true, true, false, false, false, false, false, false, false, false, false, false, false] rfl rfl (by kernel_rfl) (fun _ _ _ h => h) (Or.inl ⟨by rfl, ?_⟩) ?_ ?_
          rotate_left
          · intro w'
            go_simp
            with_reducible rfl
          rotate_left
          · simp only [Act.put, sA, sZ, sS, i64_w]
            rfl
          refine take_ (i := 3) (N := some 40) (v := ?_) (a' := ?_) #[true, true, true, true, false, false, false, false, false, false, false, false, false, false] rfl rfl (by kernel_rfl) (fun _ _ _ h => h) (Or.inl ⟨by rfl, ?_⟩) hHeld ?_ ?_
          rotate_left
          · rintro w' ⟨⟨s0_, sB_⟩, s1_, s2_⟩
            go_simp
            with_reducible rfl
          rotate_left
          · simp only [Act.put, sA, sZ, sS, i64_w]
            rfl
          refine Reg.takeC_ (i := 4) (N := some 41) (v := .bool false) (a' := ?_) #[true, true, true, true, true, false, false, false, false, false, false, false, false, false] rfl rfl (by kernel_rfl) (fun _ _ _ h => h) (by rfl) 74 #[.int .i64 a0, .pointer (some ⟨g8, 0, none⟩)] ?_ (fun w' hS_ => HC0.out w' hS_.1.2.out) hHeld ?_ ?_
          · intro w'
            go_simp
            try rfl
          rotate_left
          · simp only [Act.put, sA, sZ, sS, i64_w]
            rfl
          refine pure_ (i := 5) (N := some 42) (v := ?_) (a' := ?_) #[true, true, true, true, true, true, false, false, false, false, false, false, false, false] rfl rfl (by kernel_rfl) (fun _ _ _ h => h) (Or.inl ⟨by rfl, ?_⟩) ?_ ?_
          rotate_left
          · intro w'
            go_simp
            with_reducible rfl
          rotate_left
          · simp only [Act.put, sA, sZ, sS, i64_w]
            rfl
          refine pure_ (i := 6) (N := some 43) (v := undef) (a' := ?_) #[true, true, true, true, true, true, true, false, false, false, false, false, false, false] rfl rfl (by kernel_rfl) (fun _ _ _ h => h) (Or.inr ⟨by rfl, rfl⟩) ?_ ?_
          rotate_left
          · simp only [Act.put, sA, sZ, sS, i64_w]
            rfl
          refine pure_ (i := 7) (N := some 44) (v := undef) (a' := ?_) #[true, true, true, true, true, true, true, true, false, false, false, false, false, false] rfl rfl (by kernel_rfl) (fun _ _ _ h => h) (Or.inr ⟨by rfl, rfl⟩) ?_ ?_
          rotate_left
          · simp only [Act.put, sA, sZ, sS, i64_w]
            rfl
          refine pure_ (i := 8) (N := some 45) (v := undef) (a' := ?_) #[true, true, true, true, true, true, true, true, true, false, false, false, false, false] rfl rfl (by kernel_rfl) (fun _ _ _ h => h) (Or.inr ⟨by rfl, rfl⟩) ?_ ?_
          rotate_left
          · simp only [Act.put, sA, sZ, sS, i64_w]
            rfl
          refine pure_ (i := 9) (N := some 46) (v := undef) (a' := ?_) #[true, true, true, true, true, true, true, true, true, true, false, false, false, false] rfl rfl (by kernel_rfl) (fun _ _ _ h => h) (Or.inr ⟨by rfl, rfl⟩) ?_ ?_
          rotate_left
          · simp only [Act.put, sA, sZ, sS, i64_w]
            rfl
          refine pure_ (i := 10) (N := some 47) (v := ?_) (a' := ?_) #[true, true, true, true, true, true, true, true, true, true, true, false, false, false] rfl rfl (by kernel_rfl) (fun _ _ _ h => h) (Or.inl ⟨by rfl, ?_⟩) ?_ ?_
          rotate_left
          · intro w'
            go_simp
            with_reducible rfl
          rotate_left
          · simp only [Act.put, sA, sZ, sS, i64_w]
            rfl
          refine one_ (i := 11) (N := some 48) #[true, true, true, true, true, true, true, true, true, true, true, true, false, false] rfl rfl (by kernel_rfl) (by decide) (fun K hK => ?_)
          refine Reg.ev_ (v := .slice (some ⟨w11.drew.heap.size, 0, none⟩) 1 1) (w1 := w11.drew.alloc (.cells #[.bool false] 4)) (by rfl) (by go_simp; try rfl) ?_
          refine hK.out _ _ (HST.out _ (below_step (below_drewN w11 1) (below_alloc (Below.refl _ _) _))) (fun hHeld => ?_)
          clear hK K
          refine norm_ (a' := ?_) ?_ ?_
          rotate_left
          · show Act.put _ (some 48) _ = _
            simp only [Act.put, sA, sZ, sS, i64_w]
            rfl
          refine last_ (i := 12) (N := some 49) #[true, true, true, true, true, true, true, true, true, true, true, true, true, false] rfl rfl (by kernel_rfl) (by decide) (fun K hK => ?_)
          refine Kd.R_append_step kB (w0 := w3) (W := w11.drew) w3.heap.size rfl (.tmp 37) (.tmp 48) 56 4 (.bool false) 1 rfl Tryz.underlying56 bool_info rfl (by decide) (by omega) (.slice Av vs.length cv) vs false [.bool false] (fun _ => True) (fun _ => False) rfl rfl rfl (fun _ hk => hk.elim) (fun _ _ => trivial) HSD.out.row HSD.out.below HSD.out.below.size HPB.out ?_
          intro v2 w12 ho hb hg hat
          obtain ⟨A3, c3, e3⟩ := Kd.R_slice ho
          subst e3
          have HN2 := Aside0.mk (HSD.out.grow ho hg hb)
          clear ho hb hg hat
          refine hK.out _ _ ?_
          clear hK K
          refine norm_ (a' := ?_) ?_ ?_
          rotate_left
          · show Act.put _ (some 49) _ = _
            simp only [Act.put, sA, sZ, sS, i64_w]
            rfl
          refine last_ (i := 13) (N := none) #[true, true, true, true, true, true, true, true, true, true, true, true, true, true] rfl rfl (by kernel_rfl) (by decide) (fun K hK => ?_)
          refine Reg.st_ (by rfl) 56 (.tmp 8) (.tmp 49) rfl (g := g8) (i := 0) (T := 56) (cur := #[.slice Av vs.length cv]) (u := .slice A3 (vs ++ [false]).length c3) rfl rfl bools_size rfl rfl HN2.out.1 (show 0 < 1 from Nat.zero_lt_one) ?_
          refine hK.out _ _ ?_
          clear hK K
          refine done_ (by kernel_rfl) ?_
          have hts := HN2.out.2
          simp only [List.length_append, List.length_singleton] at hts
          have TS13 := Aside0.mk hts
          clear HN2 hts
          go_wp2
          go_roundw
          case rel => exact ⟨b, _, rfl, ⟨by have := HB.out; have := HX.out.1; omega, by have := HB.out; have := C3.out; omega⟩, ⟨by rw [HSN2.out]; exact TS13.out⟩⟩
          case measure =>
            have := C3.out; have := HX.out.1; have := HB.out
            simp [intOf]; omega
        | true =>
          have HSN2 := Aside0.mk (show evG (false :: input) (gs.take b.toNat) = vs ++ [b1] by rw [HSN.out, Bool.true_and])
          refine start_ (n := 14) (S := fun W' => ((W'.cell? ⟨g8, 0, none⟩ = some (.slice Av vs.length cv) ∧ Aside0 (BSt w3 W' g8 (.slice Av vs.length cv) vs)) ∧ W'.cell? ⟨g12, 0, none⟩ = some (.int .i64 a0) ∧ W'.cell? ⟨g12, 1, none⟩ = some (.int .i64 a1))) (ds := [12, 13]) #[false, false, false, false, false, false, false, false, false, false, false, false, false, false] (by kernel_rfl) rfl rfl (HST.out _ (below_drewN w11 1)) (fun hHeld => ?_)
          refine take_ (i := 0) (N := some 37) (v := ?_) (a' := ?_) #[true, false, false, false, false, false, false, false, false, false, false, false, false, false] rfl rfl (by kernel_rfl) (fun _ _ _ h => h) (Or.inl ⟨by rfl, ?_⟩) hHeld ?_ ?_
          rotate_left
          · rintro w' ⟨⟨s0_, sB_⟩, s1_, s2_⟩
            go_simp
            with_reducible rfl
          rotate_left
          · simp only [Act.put, sA, sZ, sS, i64_w]
            rfl
          refine pure_ (i := 1) (N := some 38) (v := ?_) (a' := ?_) #[true, true, false, false, false, false, false, false, false, false, false, false, false, false] rfl rfl (by kernel_rfl) (fun _ _ _ h => h) (Or.inl ⟨by rfl, ?_⟩) ?_ ?_
          rotate_left
          · intro w'
            go_simp
            with_reducible rfl
          rotate_left
          · simp only [Act.put, sA, sZ, sS, i64_w]
            rfl
          refine pure_ (i := 2) (N := some 39) (v := ?_) (a' := ?_) #[true, true, true, false, false, false, false, false, false, false, false, false, false, false] rfl rfl (by kernel_rfl) (fun _ _ _ h => h) (Or.inl ⟨by rfl, ?_⟩) ?_ ?_
          rotate_left
          · intro w'
            go_simp
            with_reducible rfl
          rotate_left
          · simp only [Act.put, sA, sZ, sS, i64_w]
            rfl
          refine take_ (i := 3) (N := some 40) (v := ?_) (a' := ?_) #[true, true, true, true, false, false, false, false, false, false, false, false, false, false] rfl rfl (by kernel_rfl) (fun _ _ _ h => h) (Or.inl ⟨by rfl, ?_⟩) hHeld ?_ ?_
          rotate_left
          · rintro w' ⟨⟨s0_, sB_⟩, s1_, s2_⟩
            go_simp
            with_reducible rfl
          rotate_left
          · simp only [Act.put, sA, sZ, sS, i64_w]
            rfl
          refine Reg.takeC_ (i := 4) (N := some 41) (v := .bool true) (a' := ?_) #[true, true, true, true, true, false, false, false, false, false, false, false, false, false] rfl rfl (by kernel_rfl) (fun _ _ _ h => h) (by rfl) 74 #[.int .i64 a0, .pointer (some ⟨g8, 0, none⟩)] ?_ (fun w' hS_ => HC0.out w' hS_.1.2.out) hHeld ?_ ?_
          · intro w'
            go_simp
            try rfl
          rotate_left
          · simp only [Act.put, sA, sZ, sS, i64_w]
            rfl
          refine pure_ (i := 5) (N := some 42) (v := ?_) (a' := ?_) #[true, true, true, true, true, true, false, false, false, false, false, false, false, false] rfl rfl (by kernel_rfl) (fun _ _ _ h => h) (Or.inl ⟨by rfl, ?_⟩) ?_ ?_
          rotate_left
          · intro w'
            go_simp
            with_reducible rfl
          rotate_left
          · simp only [Act.put, sA, sZ, sS, i64_w]
            rfl
          refine pure_ (i := 6) (N := some 43) (v := ?_) (a' := ?_) #[true, true, true, true, true, true, true, false, false, false, false, false, false, false] rfl rfl (by kernel_rfl) (fun _ _ _ h => h) (Or.inl ⟨by rfl, ?_⟩) ?_ ?_
          rotate_left
          · intro w'
            go_simp
            with_reducible rfl
          rotate_left
          · simp only [Act.put, sA, sZ, sS, i64_w]
            rfl
          refine pure_ (i := 7) (N := some 44) (v := ?_) (a' := ?_) #[true, true, true, true, true, true, true, true, false, false, false, false, false, false] rfl rfl (by kernel_rfl) (fun _ _ _ h => h) (Or.inl ⟨by rfl, ?_⟩) ?_ ?_
          rotate_left
          · intro w'
            go_simp
            with_reducible rfl
          rotate_left
          · simp only [Act.put, sA, sZ, sS, i64_w]
            rfl
          refine take_ (i := 8) (N := some 45) (v := ?_) (a' := ?_) #[true, true, true, true, true, true, true, true, true, false, false, false, false, false] rfl rfl (by kernel_rfl) (fun _ _ _ h => h) (Or.inl ⟨by rfl, ?_⟩) hHeld ?_ ?_
          rotate_left
          · rintro w' ⟨⟨s0_, sB_⟩, s1_, s2_⟩
            go_simp
            with_reducible rfl
          rotate_left
          · simp only [Act.put, sA, sZ, sS, i64_w]
            rfl
          refine Reg.takeC_ (i := 9) (N := some 46) (v := .bool b1) (a' := ?_) #[true, true, true, true, true, true, true, true, true, true, false, false, false, false] rfl rfl (by kernel_rfl) (fun _ _ _ h => h) (by rfl) 74 #[.int .i64 a1, .pointer (some ⟨g8, 0, none⟩)] ?_ (fun w' hS_ => HC1.out w' hS_.1.2.out) hHeld ?_ ?_
          · intro w'
            go_simp
            try rfl
          rotate_left
          · simp only [Act.put, sA, sZ, sS, i64_w]
            rfl
          refine pure_ (i := 10) (N := some 47) (v := ?_) (a' := ?_) #[true, true, true, true, true, true, true, true, true, true, true, false, false, false] rfl rfl (by kernel_rfl) (fun _ _ _ h => h) (Or.inl ⟨by rfl, ?_⟩) ?_ ?_
          rotate_left
          · intro w'
            go_simp
            with_reducible rfl
          rotate_left
          · simp only [Act.put, sA, sZ, sS, i64_w]
            rfl
          refine one_ (i := 11) (N := some 48) #[true, true, true, true, true, true, true, true, true, true, true, true, false, false] rfl rfl (by kernel_rfl) (by decide) (fun K hK => ?_)
          refine Reg.ev_ (v := .slice (some ⟨w11.drew.heap.size, 0, none⟩) 1 1) (w1 := w11.drew.alloc (.cells #[.bool b1] 4)) (by rfl) (by go_simp; try rfl) ?_
          refine hK.out _ _ (HST.out _ (below_step (below_drewN w11 1) (below_alloc (Below.refl _ _) _))) (fun hHeld => ?_)
          clear hK K
          refine norm_ (a' := ?_) ?_ ?_
          rotate_left
          · show Act.put _ (some 48) _ = _
            simp only [Act.put, sA, sZ, sS, i64_w]
            rfl
          refine last_ (i := 12) (N := some 49) #[true, true, true, true, true, true, true, true, true, true, true, true, true, false] rfl rfl (by kernel_rfl) (by decide) (fun K hK => ?_)
          refine Kd.R_append_step kB (w0 := w3) (W := w11.drew) w3.heap.size rfl (.tmp 37) (.tmp 48) 56 4 (.bool false) 1 rfl Tryz.underlying56 bool_info rfl (by decide) (by omega) (.slice Av vs.length cv) vs b1 [.bool b1] (fun _ => True) (fun _ => False) rfl rfl rfl (fun _ hk => hk.elim) (fun _ _ => trivial) HSD.out.row HSD.out.below HSD.out.below.size HPB.out ?_
          intro v2 w12 ho hb hg hat
          obtain ⟨A3, c3, e3⟩ := Kd.R_slice ho
          subst e3
          have HN2 := Aside0.mk (HSD.out.grow ho hg hb)
          clear ho hb hg hat
          refine hK.out _ _ ?_
          clear hK K
          refine norm_ (a' := ?_) ?_ ?_
          rotate_left
          · show Act.put _ (some 49) _ = _
            simp only [Act.put, sA, sZ, sS, i64_w]
            rfl
          refine last_ (i := 13) (N := none) #[true, true, true, true, true, true, true, true, true, true, true, true, true, true] rfl rfl (by kernel_rfl) (by decide) (fun K hK => ?_)
          refine Reg.st_ (by rfl) 56 (.tmp 8) (.tmp 49) rfl (g := g8) (i := 0) (T := 56) (cur := #[.slice Av vs.length cv]) (u := .slice A3 (vs ++ [b1]).length c3) rfl rfl bools_size rfl rfl HN2.out.1 (show 0 < 1 from Nat.zero_lt_one) ?_
          refine hK.out _ _ ?_
          clear hK K
          refine done_ (by kernel_rfl) ?_
          have hts := HN2.out.2
          simp only [List.length_append, List.length_singleton] at hts
          have TS13 := Aside0.mk hts
          clear HN2 hts
          go_wp2
          go_roundw
          case rel => exact ⟨b, _, rfl, ⟨by have := HB.out; have := HX.out.1; omega, by have := HB.out; have := C3.out; omega⟩, ⟨by rw [HSN2.out]; exact TS13.out⟩⟩
          case measure =>
            have := C3.out; have := HX.out.1; have := HB.out
            simp [intOf]; omega
      · have h3 : decide (x < (gs.length : Int)) = false := decide_eq_false c3
        have hlen := evG_len gs (false :: input)
        obtain ⟨vs, hvs⟩ : ∃ vs, vs = evG (false :: input) gs := ⟨_, rfl⟩
        have TS2 : Aside0 (BSt w3 wr g8 v vs) := ⟨by
          have h := TS.out
          rwa [List.take_of_length_le (by omega), ← hvs] at h⟩
        rw [← hvs] at hlen
        have HVL := Aside0.mk hlen
        have HVS := Aside0.mk hvs
        clear c3 TS hlen hvs
        obtain ⟨Av, cv, ev⟩ := Kd.R_slice TS2.out.row
        subst ev
        rename World => wb
        go_wp2
        go_loopw [12, 53] (fun v12 v53 wr => ∃ (x : Int), v53 = .int .i64 x ∧ Aside0 (0 ≤ x ∧ x ≤ l.length) ∧ Aside0 (kB.R 4 wr wb.heap.size (fun _ => True) v12 ((l.take x.toNat).map (lv vs))) ∧ Aside0 (Below wb.heap.size wb wr)) (fun _ v53 _ => l.length - (intOf v53).toNat)
        case atStart => exact ⟨0, rfl, ⟨by omega, by omega⟩, ⟨Kd.R_nil _ _ _ _ _⟩, ⟨Below.refl _ _⟩⟩
        case round =>
          obtain ⟨x, rfl, HX, HO, HBR⟩ := hrel
          obtain ⟨Ao, co, eo⟩ := Kd.R_slice HO.out
          subst eo
          have TSr := Aside0.mk (TS2.out.later HBR.out)
          by_cases c4 : x < (l.length : Int)
          · have hlm := HLL.out
            have hvl := HVL.out
            have hii := HII.out
            have hf := HF.out
            have p0 := HX.out.1
            simp only [List.length_cons] at hvl
            obtain ⟨ad, e1, hx0⟩ := Kd.at_int HRL.out x p0 c4
            cases e1
            have hbw : Below w.heap.size w wr := below_step (below_step HB3.out TS2.out.below) HBR.out
            have hx1 := (hbw.cell (World.block_lt_of_cell? w _ hx0)).trans hx0
            have hlo : 0 ≤ PrintWords.rd l x ∧ PrintWords.rd l x < 2 * (1 + inp + gs.length) := by
              have h := HG.out.2
              unfold litsOk at h
              exact of_decide_eq_true (List.all_eq_true.1 h _ (rd_mem l x p0 c4))
            have htk : (l.take (x + 1).toNat).map (lv vs) = (l.take x.toNat).map (lv vs) ++ [lv vs (PrintWords.rd l x)] := by
              rw [show (x + 1).toNat = x.toNat + 1 by omega, List.take_add_one, List.getElem?_eq_getElem (show x.toNat < l.length by omega), List.map_append, rd_get p0 c4]
              rfl
            obtain ⟨y, hy⟩ : ∃ y, y = PrintWords.rd l x := ⟨_, rfl⟩
            rw [← hy] at htk hx1 hlo
            obtain ⟨b, hb⟩ : ∃ a : Int, a = x + 1 := ⟨_, rfl⟩
            have kb : IntKind.i64.wrap (x + 1) = b := (IntWalk.i64_in _ (by omega)).trans hb.symm
            have kb' : wrap64 (x + 1) = b := by unfold wrap64; omega
            rw [← hb] at htk
            have h4 : decide (x < (l.length : Int)) = true := decide_eq_true c4
            have p1 : (0 ≤ x) = True := eq_true p0
            have q1 : (x < (l.length : Int)) = True := eq_true c4
            obtain ⟨yb, hyb⟩ : ∃ b, b = lv vs y := ⟨_, rfl⟩
            rw [← hyb] at htk
            have HEV := Aside0.mk (TSr.out.ev (x := y) (by omega) (by omega) (by omega) yb hyb)
            have HTK := Aside0.mk htk
            have HB := Aside0.mk hb
            have C4 := Aside0.mk c4
            obtain ⟨m, hm⟩ : ∃ m, m = (l.take x.toNat).map (lv vs) := ⟨_, rfl⟩
            have HML : Aside0 ((m.length + 1) * 1 ≤ 140737488355328) := ⟨by rw [hm, List.length_map, List.length_take]; omega⟩
            rw [← hm] at HO HTK ⊢
            clear hlm hvl hii hf p0 hx0 hbw hlo htk hy hb c4 hyb hm
            go_wp2_with (fail)
            refine HEV.out.mono ?_
            rintro e w' ⟨rfl, rfl⟩
            go_wp2_with (at_builtin; refine Kd.R_append kB (w0 := wb) (W := w') wb.heap.size rfl (.tmp 57) (.tmp 61) 56 4 (.bool false) 1 rfl Tryz.underlying56 bool_info rfl (by decide) (by omega) (.slice Ao m.length co) m yb [.bool yb] (fun _ => True) (fun _ => False) rfl rfl rfl (fun _ hk => hk.elim) (fun _ _ => trivial) HO.out HBR.out HBR.out.size HML.out ?_; intro v2 w2 ho hb hg hat; have HO2 := Aside0.mk ho; have HB2 := Aside0.mk hb; clear ho hb hg hat)
            go_roundw
            case rel => exact ⟨b, rfl, ⟨by have := HB.out; have := HX.out.1; omega, by have := HB.out; have := C4.out; omega⟩, ⟨by rw [HTK.out]; exact HO2.out⟩, HB2⟩
            case measure =>
              have := C4.out; have := HX.out.1; have := HB.out
              simp [intOf]; omega
          · have h4 : decide (x < (l.length : Int)) = false := decide_eq_false c4
            have hm : (l.take x.toNat).map (lv vs) = l.map (lv vs) := by rw [List.take_of_length_le (by omega)]
            rw [hm] at HO ⊢
            have HE2 := Aside0.mk (show r = (l.map (lv vs), 0) by rw [HE.out, HVS.out])
            clear c4 hm
            obtain ⟨m, hm⟩ : ∃ m, m = l.map (lv vs) := ⟨_, rfl⟩
            rw [← hm] at HO HE2 ⊢
            clear hm
            go_wp2
            go_ret2
            rw [HE2.out]
            exact ⟨Ao, co, rfl, (Kd.R_reads' HO.out).2.1, (Kd.R_reads' HO.out).2.2, below_step (below_step HB3.out TS2.out.below) HBR.out⟩
end Go.Proofs.YteaohgebocbehaaGreatDoor.Hand
end
section
/- cnf.Propagate at any arguments, by the one answer that it may give. Conditions as written in each. -/
set_option linter.unusedVariables false
set_option linter.unusedSimpArgs false
namespace Go.Proofs.YteaohgebocbehaaGreatDoor.Hand
open Go.RowKit Go.Lib Go.Shelf Go.Proofs.YteaohgebocbehaaGreatDoorW Go.Proofs.YteaohgebocbehaaGreatDoorW.PrintWords Go.Proofs.YteaohgebocbehaaGreatDoorW.PrintLast Go.Proofs.YteaohgebocbehaaGreatDoorW.PrintMore Go.Proofs.YteaohgebocbehaaGreatDoor.Plain Go.Proofs.YteaohgebocbehaaGreatDoor.XA
attribute [local go_sem] max2_int min2_int max_two min_two max_three min_three max_four min_four
theorem propOk_res {n : Int} {cl : List (List Int)} {st r : List Int} {b : Bool} (hv : validC n cl = true) (hst : st.all (startOk n) = true) (h : PropOk n cl st r b) : PropRes n cl st (r, b, 0) := by
  obtain ⟨⟨h0n, hn, _⟩, hcl⟩ := (validC_iff n cl).1 hv
  have hst' := List.all_eq_true.1 hst
  obtain ⟨s1, s2⟩ := propS_spec (st := st) hn h0n hcl hst'
  unfold PropRes
  rw [if_pos ⟨hv, hst⟩]
  unfold PropOk at h
  by_cases hf : (propS n cl st).fails = true
  · rw [if_pos hf] at h
    exact ⟨rfl, fun _ => h, fun hc => absurd (s1 hf) hc⟩
  · rw [if_neg hf] at h
    obtain ⟨h1, h2, h3⟩ := h
    obtain ⟨t1, t2, t3⟩ := s2 (by simpa using hf)
    have hnd : r.Nodup := h2.nodup_iff.2 t3
    refine ⟨rfl, fun hc => absurd hc t1, fun _ => ⟨h1, ?_, fun l => (h2.mem_iff).trans (t2 l)⟩⟩
    unfold Inc
    have hp : r.Pairwise fun x y => ¬ y.natAbs < x.natAbs ∧ x ≠ y := h3.and hnd
    refine hp.imp_of_mem fun {a b} ha hb hab => ?_
    obtain ⟨e1, e2⟩ := hab
    have ua := (t2 a).1 (h2.mem_iff.1 ha)
    have ub := (t2 b).1 (h2.mem_iff.1 hb)
    by_cases e : b = -a
    · exact absurd (Or.inl ⟨a, ua, by rw [← e]; exact ub⟩) t1
    · omega
/-- cnf.Propagate, at any arguments. -/
theorem prop_calls (n : Int) (A : Option Addr) (c : Nat) (cl : List (List Int)) (As : Option Addr) (cs : Nat) (start : List Int) (w : World) (hr : kL.C w A cl.length cl) (hc : cl.length ≤ c) (hf : Fine cl) (hs : kI.C w As start.length start) (hsl : start.length ≤ 17592186044416) :
    Calls Tryz.prog 24 #[.agg #[.int .i64 n, .slice A cl.length c], .slice As start.length cs] w fun e w' => ∃ A' c' r, e = .returned (.tuple #[.slice A' r.1.length c', .bool r.2.1, .int .i64 r.2.2]) ∧ PropRes n cl start r ∧ r.1.length ≤ c' ∧ kI.C w' A' r.1.length r.1 ∧ Below w.heap.size w w' := by
  have bad : ∀ w', ¬ (validC n cl = true ∧ start.all (startOk n) = true) → Below w.heap.size w w' → ∃ A' c' r, (Ending.returned (.tuple #[.slice none 0 0, .bool false, .int .i64 1])) = .returned (.tuple #[.slice A' r.1.length c', .bool r.2.1, .int .i64 r.2.2]) ∧ PropRes n cl start r ∧ r.1.length ≤ c' ∧ kI.C w' A' r.1.length r.1 ∧ Below w.heap.size w w' := fun w' h hb =>
    ⟨none, 0, ([], false, 1), rfl, by unfold PropRes; rw [if_neg h], Nat.le_refl _, (Kd.R_reads' (Kd.R_nil kI 3 w' w.heap.size (fun _ => True))).2.2, hb⟩
  by_cases hv : validC n cl = true
  · by_cases hst : start.all (startOk n) = true
    · refine (Propagate_good n A c cl As cs start w hr hc hf hs hsl hv hst).mono ?_
      rintro e w' ⟨v, r, b, rfl, hR, hok, hb⟩
      obtain ⟨A', c', rfl⟩ := Kd.R_slice hR
      exact ⟨A', c', (r, b, 0), rfl, propOk_res hv hst hok, (Kd.R_reads' hR).2.1, (Kd.R_reads' hR).2.2, hb⟩
    · refine (Propagate_bad n A c cl As cs start w hr hc hf hs hsl hv (by simpa using hst)).mono ?_
      rintro e w' ⟨rfl, hb⟩
      exact bad w' (fun h => hst h.2) hb
  · refine (Propagate_invalid n A c cl As cs start w hr hc hf (by simpa using hv)).mono ?_
    rintro e w' ⟨rfl, hb⟩
    exact bad w' (fun h => hv h.1) hb
theorem propRes_len {n : Int} {cl : List (List Int)} {st : List Int} {r : List Int × Bool × Int} (h : PropRes n cl st r) : r.1.length ≤ 4611686018427387904 := by
  unfold PropRes at h
  by_cases hc : validC n cl = true ∧ st.all (startOk n) = true
  · rw [if_pos hc] at h
    obtain ⟨⟨h0n, hn, _⟩, hcl⟩ := (validC_iff n cl).1 hc.1
    by_cases hx : Clash cl st
    · rw [(h.2.1 hx).1]; simp
    · obtain ⟨_, hi, hm⟩ := h.2.2 hx
      have hr : clauseOk n r.1 = true := (clauseOk_iff n r.1).2 ⟨hi, fun l hl => ((hm l).1 hl).range hcl (List.all_eq_true.1 hc.2)⟩
      have := clauseOk_length h0n hr
      omega
  · rw [if_neg hc] at h
    rw [h]; simp
theorem propRes_short {n : Int} {cl : List (List Int)} {st : List Int} {r : List Int × Bool × Int} (h : PropRes n cl st r) : r.1.length ≤ 65536 := by
  unfold PropRes at h
  by_cases hc : validC n cl = true ∧ st.all (startOk n) = true
  · rw [if_pos hc] at h
    obtain ⟨⟨h0n, hn, _⟩, hcl⟩ := (validC_iff n cl).1 hc.1
    by_cases hx : Clash cl st
    · rw [(h.2.1 hx).1]; simp
    · obtain ⟨_, hi, hm⟩ := h.2.2 hx
      have hr : clauseOk n r.1 = true := (clauseOk_iff n r.1).2 ⟨hi, fun l hl => ((hm l).1 hl).range hcl (List.all_eq_true.1 hc.2)⟩
      have := clauseOk_length h0n hr
      omega
  · rw [if_neg hc] at h
    rw [h]; simp
end Go.Proofs.YteaohgebocbehaaGreatDoor.Hand
end
section
/- CnfCircuits: the walk: true at every circuit, list of literals and inputs' values, given what the library's variables hold. -/
set_option linter.unusedVariables false
set_option linter.unusedSimpArgs false
namespace Go.Proofs.YteaohgebocbehaaGreatDoor.Plain
open Go.RowKit Go.Proofs.YteaohgebocbehaaGreatDoor.XA Go.Proofs.YteaohgebocbehaaGreatDoor.Hand Go.Proofs.YteaohgebocbehaaGreatDoorW.PrintWords
theorem bindex_ev (l : List Bool) (a : Bool) (hl : l.length ≤ 4611686018427387904) : ∀ (d : Nat) (i : Int), 0 ≤ i → i ≤ l.length → (l.length : Int) - i = d → ∃ r, Ev (fun k => slices_Index_bool_bool.l0 k l a (l.length : Int) i) r ∧ (0 ≤ r ↔ a ∈ l.drop i.toNat) := by
  intro d
  induction d with
  | zero =>
    intro i h0 h1 hd
    exact ⟨-1, Ev.step (f := fun _ => some (-1)) (fun k => by simp only [slices_Index_bool_bool.l0]; rw [if_neg (by omega)]) (Ev.now _), by rw [List.drop_eq_nil_of_le (by omega)]; simp⟩
  | succ d ih =>
    intro i h0 h1 hd
    have hlt : i < (l.length : Int) := by omega
    have hw : wrap64 (i + 1) = i + 1 := w64 (by omega) (by omega)
    have hdr : l.drop i.toNat = rdOf false l i :: l.drop (i + 1).toNat := by
      rw [show (i + 1).toNat = i.toNat + 1 by omega, List.drop_eq_getElem_cons (by omega)]
      congr 1
      unfold rdOf
      rw [List.getD_eq_getElem?_getD, List.getElem?_eq_getElem (by omega)]
      rfl
    rw [hdr]
    by_cases e : a = rdOf false l i
    · refine ⟨i, Ev.step (f := fun _ => some i) (fun k => ?_) (Ev.now _), by simp [← e, h0]⟩
      simp only [slices_Index_bool_bool.l0]
      rw [if_pos hlt, if_pos h0, if_pos hlt, if_pos (beq_iff_eq.2 e)]
    · obtain ⟨r, hr, h⟩ := ih (i + 1) (by omega) (by omega) (by omega)
      refine ⟨r, Ev.step (fun k => ?_) hr, by rw [h]; simp [e]⟩
      simp only [slices_Index_bool_bool.l0]
      rw [if_pos hlt, if_pos h0, if_pos hlt, if_neg (fun h => e (beq_iff_eq.1 h)), hw]
theorem bcontains_f (l : List Bool) (a : Bool) (hl : l.length ≤ 4611686018427387904) : Ev (fun k => slices_Contains_bool_bool.f k l a) (l.contains a) := by
  obtain ⟨r, hr, h⟩ := bindex_ev l a hl l.length 0 (by omega) (by omega) (by omega)
  have hr' : Ev (fun k => slices_Index_bool_bool.f k l a) r := hr
  refine Ev.congr (fun k => by unfold slices_Contains_bool_bool.f; rfl) (Ev.bind hr' ?_)
  have : decide (r ≥ 0) = l.contains a := by
    rw [show (0 : Int).toNat = 0 from rfl, List.drop_zero] at h
    rw [List.contains_eq_mem]
    exact decide_eq_decide.2 h
  rw [← this]
  exact Ev.now _
theorem all_contains {α : Type} (f : α → Bool) (l : List α) : (l.map f).contains false = !l.all f := by
  induction l with
  | nil => rfl
  | cons x t ih =>
    simp only [List.map_cons, List.contains_cons, ih, List.all_cons]
    cases f x <;> simp
/-- The literals of all nodes. -/
def nodesOf (k : Nat) : List Int := (List.range k).map fun (j : Nat) => 2 * (j : Int)
theorem nodesOf_len (k : Nat) : (nodesOf k).length = k := by simp [nodesOf]
theorem nodesOf_succ (k : Nat) : nodesOf (k + 1) = nodesOf k ++ [2 * (k : Int)] := by simp [nodesOf, List.range_succ]
theorem nodesOf_ok (k : Nat) (n : Int) (h : (k : Int) ≤ n) : litsOk n (nodesOf k) = true := by
  unfold litsOk nodesOf
  rw [List.all_map, List.all_eq_true]
  intro j hj
  have := List.mem_range.1 hj
  show decide (0 ≤ 2 * (j : Int) ∧ 2 * (j : Int) < 2 * n) = true
  exact decide_eq_true (by omega)
theorem nodesOf_vals (vs : List Bool) : (nodesOf vs.length).map (lv vs) = vs := by
  apply List.ext_getElem?
  intro j
  unfold nodesOf
  rw [List.map_map]
  rcases Nat.lt_or_ge j vs.length with h | h
  · rw [List.getElem?_map, List.getElem?_range h, List.getElem?_eq_getElem h]
    simp only [Option.map_some, Function.comp_apply, Option.some.injEq]
    unfold lv
    rw [show (2 * (j : Int) / 2).toNat = j by omega, List.getD_eq_getElem?_getD, List.getElem?_eq_getElem h, decide_eq_false (by omega)]
    cases vs[j] <;> rfl
  · rw [List.getElem?_eq_none (by simpa using h), List.getElem?_eq_none h]
theorem lit_start (j : Nat) (b : Bool) (hj : j ≤ 1000000) : litC (if b then 2 * ((j : Int) + 1) else 2 * ((j : Int) + 1) + 1) = vl (1 + j) b := by
  cases b with
  | true =>
    simp only [if_true]
    rw [litC_eq (by omega) (by omega), if_pos (by omega)]
    simp only [vl, if_true]
    omega
  | false =>
    simp only [Bool.false_eq_true, if_false]
    rw [litC_eq (by omega) (by omega), if_neg (by omega)]
    simp only [vl, Bool.false_eq_true, if_false]
    omega
theorem bdrop {l : List Bool} {x : Int} (h0 : 0 ≤ x) (h1 : x < (l.length : Int)) : l.take (x + 1).toNat = l.take x.toNat ++ [rdOf false l x] := by
  rw [show (x + 1).toNat = x.toNat + 1 by omega, List.take_add_one, List.getElem?_eq_getElem (by omega)]
  congr 1
  unfold rdOf
  rw [List.getD_eq_getElem?_getD, List.getElem?_eq_getElem (by omega)]
  rfl
end Go.Proofs.YteaohgebocbehaaGreatDoor.Plain
namespace Go.Proofs.YteaohgebocbehaaGreatDoor.Hand
open Go.RowKit Go.Lib Go.Shelf Go.Proofs.YteaohgebocbehaaGreatDoor.Reg Go.Proofs.YteaohgebocbehaaGreatDoorW Go.Proofs.YteaohgebocbehaaGreatDoorW.PrintWords Go.Proofs.YteaohgebocbehaaGreatDoorW.PrintLast Go.Proofs.YteaohgebocbehaaGreatDoorW.PrintMore Go.Proofs.YteaohgebocbehaaGreatDoor.Plain Go.Proofs.YteaohgebocbehaaGreatDoor.XA Go.Proofs.YteaohgebocbehaaGreatDoor.Fam
attribute [local go_sem] max2_int min2_int max_two min_two max_three min_three max_four min_four
theorem tr_eval (inp : Int) (gs : List S62) (input : List Bool) (l : List Int) (hg : gs.length ≤ 40) (hl : l.length ≤ 40) : (transC inp gs l = (0, [], 1) ∧ evalC inp gs input l = ([], 1)) ∨ ((gValid inp gs = true ∧ litsOk (1 + inp + gs.length) l = true) ∧ transC inp gs l = (1 + inp + gs.length, trF inp gs l, 0) ∧ evalC inp gs input l = (l.map (lv (evG (false :: input) gs)), 0)) := by
  unfold transC evalC
  cases h1 : gValid inp gs with
  | false => left; simp
  | true =>
    cases h2 : litsOk (1 + inp + gs.length) l with
    | false => left; simp
    | true =>
      right
      refine ⟨⟨rfl, rfl⟩, ?_, by simp⟩
      rw [if_neg (by simp), if_neg (by simp), if_neg (by omega)]
set_option maxHeartbeats 32000000 in
set_option maxRecDepth 100000 in
theorem Circuits_calls (inp : Int) (A : Option Addr) (c : Nat) (gs : List S62) (A1 : Option Addr) (c1 : Nat) (l : List Int) (Ai : Option Addr) (ci : Nat) (input : List Bool) (w : World) (hr : k62.C w A gs.length gs) (hc : gs.length ≤ c) (hr1 : kI.C w A1 l.length l) (hc1 : l.length ≤ c1) (hri : kB.C w Ai input.length input) (hci : input.length ≤ ci) (hT : Tabs w) :
    Calls Tryz.prog 9 #[.agg #[.int .i64 inp, .slice A gs.length c], .slice A1 l.length c1, .slice Ai input.length ci] w fun e w' => e = .returned (.bool true) ∧ Below w.heap.size w w' := by
  have hu24 := Tryz.underlying24
  have hu38 := Tryz.underlying38
  have HT := Aside0.mk hT
  have HR := Aside0.mk hr
  have HC := Aside0.mk hc
  have HR1 := Aside0.mk hr1
  have HRI := Aside0.mk hri
  clear hT hr hc hr1 hc1 hri hci
  go_enter Tryz.func9, Tryz.ntmps9
  by_cases h1 : 40 < (gs.length : Int)
  · have d1 : decide (40 < (gs.length : Int)) = true := decide_eq_true h1
    clear h1
    go_wp2_with (first
      | ((with_reducible refine gate_dst (N := 3) rfl ?_); refine box_event ?hg (N := 3) ?hd (cs := #[.int .i64 inp, .slice A gs.length c]) (t := 38) ?hr ?_; (case hd => rfl); (case hg => rfl); (case hr => first | (go_simp; done) | (go_simp; rfl)); intro g2 hg_ w2 h1_ h2_; have BK2 := Aside0.mk h1_; have HB2 := Aside0.mk h2_; have GEg2 := Aside0.mk hg_; clear h1_ h2_ hg_)
      | (go_at_call 10; refine (awake_calls w2 (HT.out.same HB2.out)).mono ?_; rintro e w3 ⟨rfl, hb⟩; have HL := Aside0.mk (GSt.later (⟨BK2.out, HB2.out⟩ : GSt w w2 g2 inp A gs.length c) hb); have k0 := HL.out.cells.1; have k1 := HL.out.cells.2; clear hb))
    go_ret
    exact ⟨rfl, HL.out.below⟩
  have d1 : decide (40 < (gs.length : Int)) = false := decide_eq_false h1
  have H1 := Aside0.mk h1
  clear h1
  by_cases h2 : 40 < (l.length : Int)
  · have d2 : decide (40 < (l.length : Int)) = true := decide_eq_true h2
    clear h2
    go_wp2_with (first
      | ((with_reducible refine gate_dst (N := 3) rfl ?_); refine box_event ?hg (N := 3) ?hd (cs := #[.int .i64 inp, .slice A gs.length c]) (t := 38) ?hr ?_; (case hd => rfl); (case hg => rfl); (case hr => first | (go_simp; done) | (go_simp; rfl)); intro g2 hg_ w2 h1_ h2_; have BK2 := Aside0.mk h1_; have HB2 := Aside0.mk h2_; have GEg2 := Aside0.mk hg_; clear h1_ h2_ hg_)
      | (go_at_call 10; refine (awake_calls w2 (HT.out.same HB2.out)).mono ?_; rintro e w3 ⟨rfl, hb⟩; have HL := Aside0.mk (GSt.later (⟨BK2.out, HB2.out⟩ : GSt w w2 g2 inp A gs.length c) hb); have k0 := HL.out.cells.1; have k1 := HL.out.cells.2; clear hb))
    go_ret
    exact ⟨rfl, HL.out.below⟩
  have d2 : decide (40 < (l.length : Int)) = false := decide_eq_false h2
  have H2 := Aside0.mk h2
  clear h2
  by_cases h3 : 10 < inp
  · have d3 : decide (10 < inp) = true := decide_eq_true h3
    clear h3
    go_wp2_with (first
      | ((with_reducible refine gate_dst (N := 3) rfl ?_); refine box_event ?hg (N := 3) ?hd (cs := #[.int .i64 inp, .slice A gs.length c]) (t := 38) ?hr ?_; (case hd => rfl); (case hg => rfl); (case hr => first | (go_simp; done) | (go_simp; rfl)); intro g2 hg_ w2 h1_ h2_; have BK2 := Aside0.mk h1_; have HB2 := Aside0.mk h2_; have GEg2 := Aside0.mk hg_; clear h1_ h2_ hg_)
      | (go_at_call 10; refine (awake_calls w2 (HT.out.same HB2.out)).mono ?_; rintro e w3 ⟨rfl, hb⟩; have HL := Aside0.mk (GSt.later (⟨BK2.out, HB2.out⟩ : GSt w w2 g2 inp A gs.length c) hb); have k0 := HL.out.cells.1; have k1 := HL.out.cells.2; clear hb))
    go_ret
    exact ⟨rfl, HL.out.below⟩
  have d3 : decide (10 < inp) = false := decide_eq_false h3
  have H3 := Aside0.mk h3
  clear h3
  by_cases h4 : (input.length : Int) ≠ inp
  · have d4 : ((input.length : Int) != inp) = true := bne_iff_ne.2 h4
    clear h4
    go_wp2_with (first
      | ((with_reducible refine gate_dst (N := 3) rfl ?_); refine box_event ?hg (N := 3) ?hd (cs := #[.int .i64 inp, .slice A gs.length c]) (t := 38) ?hr ?_; (case hd => rfl); (case hg => rfl); (case hr => first | (go_simp; done) | (go_simp; rfl)); intro g2 hg_ w2 h1_ h2_; have BK2 := Aside0.mk h1_; have HB2 := Aside0.mk h2_; have GEg2 := Aside0.mk hg_; clear h1_ h2_ hg_)
      | (go_at_call 10; refine (awake_calls w2 (HT.out.same HB2.out)).mono ?_; rintro e w3 ⟨rfl, hb⟩; have HL := Aside0.mk (GSt.later (⟨BK2.out, HB2.out⟩ : GSt w w2 g2 inp A gs.length c) hb); have k0 := HL.out.cells.1; have k1 := HL.out.cells.2; clear hb))
    go_ret
    exact ⟨rfl, HL.out.below⟩
  have d4 : ((input.length : Int) != inp) = false := (by rw [bne_eq_false_iff_eq]; exact Decidable.not_not.1 h4)
  have H4 := Aside0.mk h4
  clear h4
  have HSZ : Aside0 (gs.length ≤ 40 ∧ l.length ≤ 40 ∧ (input.length : Int) = inp ∧ inp ≤ 10) := ⟨by have := H1.out; have := H2.out; have := H3.out; have := H4.out; omega⟩
  clear H1 H2 H3 H4
  obtain ⟨r, hres⟩ : ∃ r, r = transC inp gs l := ⟨_, rfl⟩
  have HRES := Aside0.mk hres
  have HF := Aside0.mk (show Fine r.2.1 by rw [hres]; exact transC_fine inp gs l (by have := HSZ.out; omega) (by have := HSZ.out; omega))
  clear hres
  obtain ⟨rn, rc, re⟩ := r
  simp only at HF
  obtain ⟨q, hq⟩ : ∃ q, q = evalC inp gs input l := ⟨_, rfl⟩
  have HQ := Aside0.mk hq
  clear hq
  obtain ⟨qv, qe⟩ := q
  go_wp2_with (first
      | ((with_reducible refine gate_dst (N := 3) rfl ?_); refine box_event ?hg (N := 3) ?hd (cs := #[.int .i64 inp, .slice A gs.length c]) (t := 38) ?hr ?_; (case hd => rfl); (case hg => rfl); (case hr => first | (go_simp; done) | (go_simp; rfl)); intro g2 hg_ w2 h1_ h2_; have BK2 := Aside0.mk h1_; have HB2 := Aside0.mk h2_; have GEg2 := Aside0.mk hg_; clear h1_ h2_ hg_)
      | (go_at_call 10; refine (awake_calls w2 (HT.out.same HB2.out)).mono ?_; rintro e w3 ⟨rfl, hb⟩; have HL := Aside0.mk (GSt.later (⟨BK2.out, HB2.out⟩ : GSt w w2 g2 inp A gs.length c) hb); have k0 := HL.out.cells.1; have k1 := HL.out.cells.2; clear hb))
  refine (tr2_calls inp A c gs A1 c1 l w3 (Kd.C_below HR.out HL.out.below) HC.out (by have := HSZ.out; omega) (Kd.C_below HR1.out HL.out.below) (by have := HSZ.out; omega) (rn, rc, re) HRES.out).mono ?_
  rintro e w4 ⟨A4, c4, rfl, hc4, hr4, hb⟩
  have HL4 := Aside0.mk (HL.out.later hb)
  have H4 := Aside0.mk (And.intro hc4 hr4)
  clear hb hc4 hr4 k0 k1 BK2 HB2 HL
  simp only at H4 ⊢
  go_wp2_with (first
    | ((with_reducible refine gate_dst (N := 7) rfl ?_); refine box_event ?hg (N := 7) ?hd (cs := #[.int .i64 0, .slice none 0 0]) (t := 24) ?hr ?_; (case hd => rfl); (case hg => rfl); (case hr => first | (go_simp; done) | (go_simp; rfl)); intro g5 hg_ w5 h1_ h2_; have BK5 := Aside0.mk h1_; have HB5 := Aside0.mk h2_; have GEg5 := Aside0.mk hg_; clear h1_ h2_ hg_)
    | (((with_reducible refine gate_ (.store 24 (.tmp 7) (.tmp 52)) rfl ?_); refine st_box rfl rfl 24 (.tmp 7) (.tmp 52) rfl (g := g5) (T := 24) (cur := #[.int .i64 0, .slice none 0 0]) (u := .agg #[.int .i64 rn, .slice A4 rc.length c4]) rfl rfl (BK5.out) size24 rfl (by simp [Value.cells, Value.oneCell']) ?_; intro w6 h1_ h2_; have BK6 := Aside0.mk h1_; have HG6 := Aside0.mk h2_; clear h1_ h2_); have HX6 := Aside0.mk (show Below w4.heap.size w4 w6 from below_grown HB5.out HB5.out.size HG6.out (by rw [GEg5.out]; exact Nat.le_refl _)); have HL6 := Aside0.mk (HL4.out.later HX6.out); have q0 := HL6.out.cells.1; have q1 := HL6.out.cells.2))
  refine (Eval_calls inp A c gs Ai ci input A1 c1 l w6 (Kd.C_below HR.out HL6.out.below) HC.out (by have := HSZ.out; omega) (Kd.C_below HRI.out HL6.out.below) HSZ.out.2.2.1 (by have := HSZ.out; omega) (Kd.C_below HR1.out HL6.out.below) (by have := HSZ.out; omega) (qv, qe) HQ.out).mono ?_
  rintro e w7 ⟨A7, c7, rfl, hc7, hr7, hb⟩
  have HL7 := Aside0.mk (HL6.out.later hb)
  have H7 := Aside0.mk (And.intro hc7 hr7)
  have BK7 := Aside0.mk (blk_below BK6.out hb)
  have H47 := Aside0.mk (And.intro H4.out.1 (Kd.C_below H4.out.2 (below_step HX6.out hb)))
  clear hb hc7 hr7 q0 q1 HL6 HX6 HL4 BK5 BK6 HB5 HG6 GEg5 H4
  simp only at H7 H47 ⊢
  rcases tr_eval inp gs input l HSZ.out.1 HSZ.out.2.1 with ⟨e1, e2⟩ | ⟨hgv, e1, e2⟩
  · have e3 := HRES.out.trans e1
    have e4 := HQ.out.trans e2
    injection e3 with e5 e6
    injection e6 with e6 e7
    injection e4 with e8 e9
    subst e5 e6 e7 e8 e9
    clear e1 e2
    go_wp2
    go_ret
    exact ⟨rfl, HL7.out.below⟩
  have e3 := HRES.out.trans e1
  have e4 := HQ.out.trans e2
  injection e3 with e5 e6
  injection e6 with e6 e7
  injection e4 with e8 e9
  obtain ⟨vs, hvs⟩ : ∃ vs, vs = evG (false :: input) gs := ⟨_, rfl⟩
  rw [← hvs] at e8
  have HCIRC := Aside0.mk (show Circ inp gs input l from ⟨hgv.1, hgv.2, HSZ.out.2.2.1, HSZ.out.1, HSZ.out.2.1⟩)
  have HVS := Aside0.mk hvs
  have HVL := Aside0.mk (show vs.length = 1 + input.length + gs.length by rw [hvs, evG_len]; simp only [List.length_cons]; omega)
  have E8 := Aside0.mk e8
  have E6 := Aside0.mk e6
  have E5 := Aside0.mk e5
  subst e7 e9
  clear e1 e2 hgv e5 e6 e8 hvs HRES HQ
  go_wp2
  go_loopw [11, 72] (fun v11 v72 wr => ∃ (x : Int), v72 = .int .i64 x ∧ Aside0 (0 ≤ x ∧ x ≤ input.length) ∧ Aside0 (kI.R 3 wr w7.heap.size (fun _ => True) v11 (modelOf 1 (input.take x.toNat))) ∧ Aside0 (Below w7.heap.size w7 wr)) (fun _ v72 _ => input.length - (intOf v72).toNat)
  case atStart => exact ⟨0, rfl, ⟨by omega, by omega⟩, ⟨Kd.R_nil _ _ _ _ _⟩, ⟨Below.refl _ _⟩⟩
  case round =>
    obtain ⟨x, rfl, HX, HO, HBR⟩ := hrel
    obtain ⟨Ao, co, eo⟩ := Kd.R_slice HO.out
    subst eo
    by_cases c4' : x < (input.length : Int)
    · have hsz := HSZ.out
      have p0 := HX.out.1
      obtain ⟨ad, e1, hx0⟩ := Kd.at_bool HRI.out x p0 c4'
      cases e1
      have hbw : Below w.heap.size w wr := below_step HL7.out.below HBR.out
      have hx1 := (hbw.cell (World.block_lt_of_cell? w _ hx0)).trans hx0
      have htk := bdrop p0 c4'
      have hsn := modelOf_snoc (input.take x.toNat) (rdOf false input x) 1
      rw [← htk, List.length_take, show min x.toNat input.length = x.toNat by omega] at hsn
      obtain ⟨b, hb⟩ : ∃ a : Int, a = x + 1 := ⟨_, rfl⟩
      obtain ⟨y, hy⟩ : ∃ a : Int, a = 2 * b := ⟨_, rfl⟩
      obtain ⟨z, hz⟩ : ∃ a : Int, a = y + 1 := ⟨_, rfl⟩
      have kb : IntKind.i64.wrap (x + 1) = b := (IntWalk.i64_in _ (by omega)).trans hb.symm
      have kb' : wrap64 (x + 1) = b := by unfold wrap64; omega
      have ky : IntKind.i64.wrap (2 * b) = y := (IntWalk.i64_in _ (by omega)).trans hy.symm
      have ky' : wrap64 (2 * b) = y := by unfold wrap64; omega
      have kz : IntKind.i64.wrap (y + 1) = z := (IntWalk.i64_in _ (by omega)).trans hz.symm
      have kz' : wrap64 (y + 1) = z := by unfold wrap64; omega
      obtain ⟨bv, hbv⟩ : ∃ bv, bv = rdOf false input x := ⟨_, rfl⟩
      rw [← hbv] at hx1 hsn
      have hls := lit_start x.toNat bv (by omega)
      rw [show (x.toNat : Int) = x by omega, ← hb, ← hy, ← hz] at hls
      rw [← hls, ← hb] at hsn
      have h4 : decide (x < (input.length : Int)) = true := decide_eq_true c4'
      have p1 : (0 ≤ x) = True := eq_true p0
      have q1 : (x < (input.length : Int)) = True := eq_true c4'
      obtain ⟨m, hm⟩ : ∃ m, m = modelOf 1 (input.take x.toNat) := ⟨_, rfl⟩
      have HML : Aside0 ((m.length + 1) * 8 ≤ 140737488355328) := ⟨by rw [hm, modelOf_len, List.length_take]; omega⟩
      rw [← hm] at HO hsn ⊢
      have HSN := Aside0.mk hsn
      have HB := Aside0.mk hb
      have C4 := Aside0.mk c4'
      clear hsz p0 hx0 hbw htk hsn hb hy hz hbv hls c4' hm
      cases bv with
      | true =>
        obtain ⟨u, hu⟩ : ∃ u, u = litC y := ⟨_, rfl⟩
        have HLC : Aside0 (∀ W, Calls Tryz.prog 19 #[.int .i64 y] W fun e w' => e = .returned (.int .i64 u) ∧ w' = W) := ⟨fun W => by rw [hu]; exact lit_calls y W⟩
        have HS2 := Aside0.mk (show modelOf 1 (input.take b.toNat) = m ++ [u] by rw [HSN.out, hu]; rfl)
        clear hu
        go_wp2_with (first | (go_at_call 19; refine (HLC.out wr).mono ?_; rintro e w' ⟨rfl, hw'⟩; subst hw') | (at_builtin; refine Kd.R_append kI (w0 := w7) (W := w') w7.heap.size rfl (.tmp 84) (.tmp 87) 25 3 (.int .i64 0) 8 rfl Tryz.underlying25 int_info rfl (by decide) (by omega) (.slice Ao m.length co) m u [.int .i64 u] (fun _ => True) (fun _ => False) rfl rfl rfl (fun _ hk => hk.elim) (fun _ _ => trivial) HO.out HBR.out HBR.out.size HML.out ?_; intro v2 w2 ho hb hg hat; have HO2 := Aside0.mk ho; have HB2 := Aside0.mk hb; clear ho hb hg hat))
        go_roundw
        case rel => exact ⟨b, rfl, ⟨by have := HB.out; have := HX.out.1; omega, by have := HB.out; have := C4.out; omega⟩, ⟨by rw [HS2.out]; exact HO2.out⟩, HB2⟩
        case measure =>
          have := C4.out; have := HX.out.1; have := HB.out
          simp [intOf]; omega
      | false =>
        obtain ⟨u, hu⟩ : ∃ u, u = litC z := ⟨_, rfl⟩
        have HLC : Aside0 (∀ W, Calls Tryz.prog 19 #[.int .i64 z] W fun e w' => e = .returned (.int .i64 u) ∧ w' = W) := ⟨fun W => by rw [hu]; exact lit_calls z W⟩
        have HS2 := Aside0.mk (show modelOf 1 (input.take b.toNat) = m ++ [u] by rw [HSN.out, hu]; rfl)
        clear hu
        go_wp2_with (first | (go_at_call 19; refine (HLC.out wr).mono ?_; rintro e w' ⟨rfl, hw'⟩; subst hw') | (at_builtin; refine Kd.R_append kI (w0 := w7) (W := w') w7.heap.size rfl (.tmp 84) (.tmp 87) 25 3 (.int .i64 0) 8 rfl Tryz.underlying25 int_info rfl (by decide) (by omega) (.slice Ao m.length co) m u [.int .i64 u] (fun _ => True) (fun _ => False) rfl rfl rfl (fun _ hk => hk.elim) (fun _ _ => trivial) HO.out HBR.out HBR.out.size HML.out ?_; intro v2 w2 ho hb hg hat; have HO2 := Aside0.mk ho; have HB2 := Aside0.mk hb; clear ho hb hg hat))
        go_roundw
        case rel => exact ⟨b, rfl, ⟨by have := HB.out; have := HX.out.1; omega, by have := HB.out; have := C4.out; omega⟩, ⟨by rw [HS2.out]; exact HO2.out⟩, HB2⟩
        case measure =>
          have := C4.out; have := HX.out.1; have := HB.out
          simp [intOf]; omega
    · have h4 : decide (x < (input.length : Int)) = false := decide_eq_false c4'
      have hm : modelOf 1 (input.take x.toNat) = startOf input := by rw [List.take_of_length_le (by omega)]; rfl
      rw [hm] at HO ⊢
      clear c4' hm
      obtain ⟨st, hst⟩ : ∃ m, m = startOf input := ⟨_, rfl⟩
      rw [← hst] at HO ⊢
      have HST := Aside0.mk hst
      have HSL := Aside0.mk (show st.length ≤ 10 by rw [hst]; unfold startOf; rw [modelOf_len]; have := HSZ.out; omega)
      clear hst
      have HL8 := Aside0.mk (HL7.out.later HBR.out)
      obtain ⟨k80, k81⟩ := HL8.out.cells
      have HNC : Aside0 (∀ W, Below w.heap.size w W → Calls Tryz.prog 38 #[.agg #[.int .i64 inp, .slice A gs.length c]] W fun e w' => e = .returned (.int .i64 (vs.length : Int)) ∧ Below W.heap.size W w') := ⟨fun W hW => by
        have h := HSZ.out
        have hv := HVL.out
        rw [show (vs.length : Int) = 1 + inp + gs.length by omega]
        exact assessorref24_Nodes.calls inp A c gs _ W (Kd.C_below HR.out hW) HC.out (rnodes_f (by omega) (by omega) (by omega))⟩
      rename World => wb
      go_wp2_with (go_at_call 38; refine (HNC.out wb HL8.out.below).mono ?_; rintro e w9 ⟨rfl, hb⟩; have HB9 := Aside0.mk hb; clear hb)
      have HL9 := Aside0.mk (HL8.out.later HB9.out)
      have HSO := Aside0.mk (And.intro (Kd.R_reads' HO.out).2.1 (Kd.C_below (Kd.R_reads' HO.out).2.2 HB9.out))
      have HX79 := Aside0.mk (below_step HBR.out HB9.out)
      clear HO HL8 k80 k81 HB9 HNC HX
      go_loopw [12, 92] (fun v12 v92 wr => ∃ (x : Int), v92 = .int .i64 x ∧ Aside0 (0 ≤ x ∧ x ≤ vs.length) ∧ Aside0 (kI.R 3 wr w9.heap.size (fun _ => True) v12 (nodesOf x.toNat)) ∧ Aside0 (Below w9.heap.size w9 wr)) (fun _ v92 _ => vs.length - (intOf v92).toNat)
      case atStart => exact ⟨0, rfl, ⟨by omega, by omega⟩, ⟨Kd.R_nil _ _ _ _ _⟩, ⟨Below.refl _ _⟩⟩
      case round =>
        obtain ⟨x, rfl, HX, HO, HBR2⟩ := hrel
        obtain ⟨An, cn, en⟩ := Kd.R_slice HO.out
        subst en
        by_cases c4' : x < (vs.length : Int)
        · have hsz := HSZ.out
          have hvl := HVL.out
          have p0 := HX.out.1
          have hsn := nodesOf_succ x.toNat
          obtain ⟨b, hb⟩ : ∃ a : Int, a = x + 1 := ⟨_, rfl⟩
          obtain ⟨y, hy⟩ : ∃ a : Int, a = 2 * x := ⟨_, rfl⟩
          have kb : IntKind.i64.wrap (x + 1) = b := (IntWalk.i64_in _ (by omega)).trans hb.symm
          have kb' : wrap64 (x + 1) = b := by unfold wrap64; omega
          have ky : IntKind.i64.wrap (2 * x) = y := (IntWalk.i64_in _ (by omega)).trans hy.symm
          have ky' : wrap64 (2 * x) = y := by unfold wrap64; omega
          rw [show x.toNat + 1 = b.toNat by omega, show 2 * (x.toNat : Int) = y by omega] at hsn
          have h4 : decide (x < (vs.length : Int)) = true := decide_eq_true c4'
          obtain ⟨m, hm⟩ : ∃ m, m = nodesOf x.toNat := ⟨_, rfl⟩
          have HML : Aside0 ((m.length + 1) * 8 ≤ 140737488355328) := ⟨by rw [hm, nodesOf_len]; omega⟩
          rw [← hm] at HO hsn ⊢
          have HSN := Aside0.mk hsn
          have HB := Aside0.mk hb
          have C4 := Aside0.mk c4'
          clear hsz hvl p0 hsn hb hy c4' hm
          go_wp2_with (at_builtin; refine Kd.R_append kI (w0 := w9) (W := wr) w9.heap.size rfl (.tmp 95) (.tmp 98) 25 3 (.int .i64 0) 8 rfl Tryz.underlying25 int_info rfl (by decide) (by omega) (.slice An m.length cn) m y [.int .i64 y] (fun _ => True) (fun _ => False) rfl rfl rfl (fun _ hk => hk.elim) (fun _ _ => trivial) HO.out HBR2.out HBR2.out.size HML.out ?_; intro v2 w2 ho hb hg hat; have HO2 := Aside0.mk ho; have HB2 := Aside0.mk hb; clear ho hb hg hat)
          go_roundw
          case rel => exact ⟨b, rfl, ⟨by have := HB.out; have := HX.out.1; omega, by have := HB.out; have := C4.out; omega⟩, ⟨by rw [HSN.out]; exact HO2.out⟩, HB2⟩
          case measure =>
            have := C4.out; have := HX.out.1; have := HB.out
            simp [intOf]; omega
        · have h4 : decide (x < (vs.length : Int)) = false := decide_eq_false c4'
          have hm : nodesOf x.toNat = nodesOf vs.length := by congr 1; have := HX.out; omega
          rw [hm] at HO ⊢
          clear c4' hm HX
          have HL10 := Aside0.mk (HL9.out.later HBR2.out)
          obtain ⟨k100, k101⟩ := HL10.out.cells
          obtain ⟨nd, hnd⟩ : ∃ m, m = nodesOf vs.length := ⟨_, rfl⟩
          rw [← hnd] at HO ⊢
          have HND := Aside0.mk (show nd.length ≤ 65536 by rw [hnd, nodesOf_len]; have := HVL.out; have := HSZ.out; omega)
          have HEV := Aside0.mk (show (vs, (0 : Int)) = evalC inp gs input nd by
            unfold evalC
            have hn := nodesOf_ok vs.length (1 + inp + gs.length) (by have := HVL.out; have := HSZ.out; omega)
            rw [← hnd] at hn
            have hv := nodesOf_vals vs
            rw [← hnd] at hv
            rw [if_neg (by rw [HCIRC.out.gv, hn]; simp), ← HVS.out, hv])
          clear hnd
          rename World => wc
          go_wp2_with (fail)
          refine (Eval_calls inp A c gs Ai ci input An cn nd wc (Kd.C_below HR.out HL10.out.below) HC.out (by have := HSZ.out; omega) (Kd.C_below HRI.out HL10.out.below) HSZ.out.2.2.1 (by have := HSZ.out; omega) (Kd.R_reads' HO.out).2.2 HND.out (vs, 0) HEV.out).mono ?_
          rintro e w11 ⟨A11, c11, rfl, hc11, hr11, hb⟩
          have HL11 := Aside0.mk (HL10.out.later hb)
          have H11 := Aside0.mk (And.intro hc11 hr11)
          have HX911 := Aside0.mk (below_step HBR2.out hb)
          clear hb hc11 hr11 k100 k101 HL10 HO HEV HND HBR2
          simp only at H11 ⊢
          go_wp2
          go_loopw [13, 110] (fun v13 v110 wr => ∃ (x : Int), v110 = .int .i64 x ∧ Aside0 (0 ≤ x ∧ x ≤ vs.length) ∧ Aside0 (kI.R 3 wr w11.heap.size (fun _ => True) v13 (modelOf 0 (vs.take x.toNat))) ∧ Aside0 (Below w11.heap.size w11 wr)) (fun _ v110 _ => vs.length - (intOf v110).toNat)
          case atStart => exact ⟨0, rfl, ⟨by omega, by omega⟩, ⟨Kd.R_nil _ _ _ _ _⟩, ⟨Below.refl _ _⟩⟩
          case round =>
            obtain ⟨x, rfl, HX, HO, HBR3⟩ := hrel
            obtain ⟨Am, cm, em⟩ := Kd.R_slice HO.out
            subst em
            by_cases c4' : x < (vs.length : Int)
            · have hsz := HSZ.out
              have hvl := HVL.out
              have p0 := HX.out.1
              obtain ⟨ad, e1, hx0⟩ := Kd.at_bool H11.out.2 x p0 c4'
              cases e1
              have hx1 := (HBR3.out.cell (World.block_lt_of_cell? w11 _ hx0)).trans hx0
              have htk := bdrop p0 c4'
              have hsn := modelOf_snoc (vs.take x.toNat) (rdOf false vs x) 0
              rw [← htk, List.length_take, show min x.toNat vs.length = x.toNat by omega] at hsn
              obtain ⟨b, hb⟩ : ∃ a : Int, a = x + 1 := ⟨_, rfl⟩
              obtain ⟨y, hy⟩ : ∃ a : Int, a = -x := ⟨_, rfl⟩
              obtain ⟨z, hz⟩ : ∃ a : Int, a = y - 1 := ⟨_, rfl⟩
              have kb : IntKind.i64.wrap (x + 1) = b := (IntWalk.i64_in _ (by omega)).trans hb.symm
              have kb' : wrap64 (x + 1) = b := by unfold wrap64; omega
              have ky : IntKind.i64.wrap (-x) = y := (IntWalk.i64_in _ (by omega)).trans hy.symm
              have ky' : wrap64 (-x) = y := by unfold wrap64; omega
              have kz : IntKind.i64.wrap (y - 1) = z := (IntWalk.i64_in _ (by omega)).trans hz.symm
              have kz' : wrap64 (y - 1) = z := by unfold wrap64; omega
              obtain ⟨bv, hbv⟩ : ∃ bv, bv = rdOf false vs x := ⟨_, rfl⟩
              rw [← hbv] at hx1 hsn
              have hls : vl (0 + x.toNat) bv = if bv then b else z := by
                unfold vl
                cases bv <;> simp <;> omega
              rw [hls, ← hb] at hsn
              have h4 : decide (x < (vs.length : Int)) = true := decide_eq_true c4'
              have p1 : (0 ≤ x) = True := eq_true p0
              have q1 : (x < (vs.length : Int)) = True := eq_true c4'
              obtain ⟨m, hm⟩ : ∃ m, m = modelOf 0 (vs.take x.toNat) := ⟨_, rfl⟩
              have HML : Aside0 ((m.length + 1) * 8 ≤ 140737488355328) := ⟨by rw [hm, modelOf_len, List.length_take]; omega⟩
              rw [← hm] at HO hsn ⊢
              have HSN := Aside0.mk hsn
              have HB := Aside0.mk hb
              have C4 := Aside0.mk c4'
              clear hsz hvl p0 hx0 htk hsn hb hy hz hbv hls c4' hm
              cases bv with
              | true =>
                have HS2 := Aside0.mk (show modelOf 0 (vs.take b.toNat) = m ++ [b] by rw [HSN.out]; rfl)
                go_wp2_with (at_builtin; refine Kd.R_append kI (w0 := w11) (W := wr) w11.heap.size rfl (.tmp 116) (.tmp 119) 25 3 (.int .i64 0) 8 rfl Tryz.underlying25 int_info rfl (by decide) (by omega) (.slice Am m.length cm) m b [.int .i64 b] (fun _ => True) (fun _ => False) rfl rfl rfl (fun _ hk => hk.elim) (fun _ _ => trivial) HO.out HBR3.out HBR3.out.size HML.out ?_; intro v2 w2 ho hb hg hat; have HO2 := Aside0.mk ho; have HB2 := Aside0.mk hb; clear ho hb hg hat)
                go_roundw
                case rel => exact ⟨b, rfl, ⟨by have := HB.out; have := HX.out.1; omega, by have := HB.out; have := C4.out; omega⟩, ⟨by rw [HS2.out]; exact HO2.out⟩, HB2⟩
                case measure =>
                  have := C4.out; have := HX.out.1; have := HB.out
                  simp [intOf]; omega
              | false =>
                have HS2 := Aside0.mk (show modelOf 0 (vs.take b.toNat) = m ++ [z] by rw [HSN.out]; rfl)
                go_wp2_with (at_builtin; refine Kd.R_append kI (w0 := w11) (W := wr) w11.heap.size rfl (.tmp 121) (.tmp 125) 25 3 (.int .i64 0) 8 rfl Tryz.underlying25 int_info rfl (by decide) (by omega) (.slice Am m.length cm) m z [.int .i64 z] (fun _ => True) (fun _ => False) rfl rfl rfl (fun _ hk => hk.elim) (fun _ _ => trivial) HO.out HBR3.out HBR3.out.size HML.out ?_; intro v2 w2 ho hb hg hat; have HO2 := Aside0.mk ho; have HB2 := Aside0.mk hb; clear ho hb hg hat)
                go_roundw
                case rel => exact ⟨b, rfl, ⟨by have := HB.out; have := HX.out.1; omega, by have := HB.out; have := C4.out; omega⟩, ⟨by rw [HS2.out]; exact HO2.out⟩, HB2⟩
                case measure =>
                  have := C4.out; have := HX.out.1; have := HB.out
                  simp [intOf]; omega
            · have h4 : decide (x < (vs.length : Int)) = false := decide_eq_false c4'
              have hm : modelOf 0 (vs.take x.toNat) = modelOf 0 vs := by rw [List.take_of_length_le (by omega)]
              rw [hm] at HO ⊢
              clear c4' hm HX
              obtain ⟨md, hmd⟩ : ∃ m, m = modelOf 0 vs := ⟨_, rfl⟩
              rw [← hmd] at HO ⊢
              have HMD := Aside0.mk hmd
              have HMDL := Aside0.mk (show md.length ≤ 65536 by rw [hmd, modelOf_len]; have := HVL.out; have := HSZ.out; omega)
              clear hmd
              rename World => wd
              have HX7d := Aside0.mk (below_step (below_step HX79.out HX911.out) HBR3.out)
              have HL12 := Aside0.mk (HL7.out.later HX7d.out)
              have BKd := Aside0.mk (blk_below BK7.out HX7d.out)
              have b0 : wd.cell? ⟨g5, 0, none⟩ = some (.int .i64 rn) := (blk_cell BKd.out 0).trans rfl
              have b1 : wd.cell? ⟨g5, 1, none⟩ = some (.slice A4 rc.length c4) := (blk_cell BKd.out 1).trans rfl
              have HSOd := Aside0.mk (Kd.C_below HSO.out.2 (below_step HX911.out HBR3.out))
              have HFC := Aside0.mk (And.intro H47.out.1 (Kd.C_below H47.out.2 HX7d.out))
              have HQV := Aside0.mk (And.intro H7.out.1 (Kd.C_below H7.out.2 HX7d.out))
              go_wp2_with (fail)
              refine (prop_calls rn A4 c4 rc Ao co st wd HFC.out.2 HFC.out.1 HF.out HSOd.out (by have := HSL.out; omega)).mono ?_
              rintro e w13 ⟨A13, c13, pr, rfl, hp, hc13, hr13, hb⟩
              have hlaw := HCIRC.out.law (r := pr) (by rw [← E5.out, ← E6.out, ← HST.out]; exact hp)
              rw [← HVS.out, ← HMD.out, ← E5.out, ← E6.out] at hlaw
              obtain ⟨rt, hrt⟩ : ∃ b, b = l.all (lv vs) := ⟨_, rfl⟩
              rw [← hrt] at hlaw
              obtain ⟨p1, p2, p3⟩ := pr
              obtain ⟨l1, l2, l3, l4⟩ := hlaw
              simp only at l1 l2 l4
              subst l1 l2
              have H13 := Aside0.mk (And.intro hc13 hr13)
              have HB13 := Aside0.mk hb
              have hcb : qv.contains false = !p2 := by rw [E8.out, all_contains, ← hrt]
              have HCB : Aside0 (∀ W, Below wd.heap.size wd W → Calls Tryz.prog 39 #[.slice A7 qv.length c7, .bool false] W fun e w' => e = .returned (.bool (!p2)) ∧ Below W.heap.size W w') := ⟨fun W hW => by
                obtain ⟨k, hk⟩ := (bcontains_f qv false (by rw [E8.out, List.length_map]; have := HSZ.out; omega)).rounds
                rw [hcb] at hk
                refine (slices_Contains_bool_bool.calls k A7 c7 qv false _ W (Kd.C_below HQV.out.2 hW) HQV.out.1 hk).mono ?_
                rintro e w' ⟨rfl, hd⟩
                exact ⟨rfl, hd.below⟩⟩
              have HHC : Aside0 (∀ W, Below wd.heap.size wd W → Calls Tryz.prog 17 #[.agg #[.int .i64 rn, .slice A4 rc.length c4], .slice Am md.length cm] W fun e w' => e = .returned (.bool p2) ∧ Below W.heap.size W w') := ⟨fun W hW => by
                rw [← l3]
                exact Holds_calls rn A4 c4 rc Am cm md W (Kd.C_below HFC.out.2 hW) HFC.out.1 HF.out (Kd.C_below (Kd.R_reads' HO.out).2.2 hW) (by have := HMDL.out; omega)⟩
              have HEQ : Aside0 (p2 = true → p1 = md) := ⟨fun h => l4 h⟩
              clear hp hc13 hr13 hb hrt l3 l4 hcb
              simp only at H13 ⊢
              have z0 : ((0 : Int) == 0) = true := rfl
              cases p2 with
              | false =>
                go_wp2_with (first
                  | (go_at_call 39; refine (HCB.out w13 HB13.out).mono ?_; rintro e w14 ⟨rfl, hb⟩; have HB14 := Aside0.mk (below_step HB13.out hb); have BK14 := Aside0.mk (blk_below BKd.out HB14.out); have t0 : w14.cell? ⟨g5, 0, none⟩ = some (.int .i64 rn) := (blk_cell BK14.out 0).trans rfl; have t1 : w14.cell? ⟨g5, 1, none⟩ = some (.slice A4 rc.length c4) := (blk_cell BK14.out 1).trans rfl; clear hb)
                  | (go_at_call 17; refine (HHC.out w14 HB14.out).mono ?_; rintro e w15 ⟨rfl, hb⟩; have HB15 := Aside0.mk (below_step HB14.out hb); clear hb))
                go_ret
                exact ⟨rfl, below_step HL12.out.below HB15.out⟩
              | true =>
                obtain rfl := HEQ.out rfl
                go_wp2_with (first
                  | (go_at_call 39; refine (HCB.out w13 HB13.out).mono ?_; rintro e w14 ⟨rfl, hb⟩; have HB14 := Aside0.mk (below_step HB13.out hb); have HD14 := Aside0.mk hb; have BK14 := Aside0.mk (blk_below BKd.out HB14.out); have t0 : w14.cell? ⟨g5, 0, none⟩ = some (.int .i64 rn) := (blk_cell BK14.out 0).trans rfl; have t1 : w14.cell? ⟨g5, 1, none⟩ = some (.slice A4 rc.length c4) := (blk_cell BK14.out 1).trans rfl; clear hb)
                  | (go_at_call 17; refine (HHC.out w14 HB14.out).mono ?_; rintro e w15 ⟨rfl, hb⟩; have HB15 := Aside0.mk (below_step HB14.out hb); have HD15 := Aside0.mk (below_step HD14.out hb); clear hb)
                  | (go_at_call 14; refine (eqs_calls A13 c13 Am cm p1 w15 (Kd.C_below H13.out.2 HD15.out) H13.out.1 (Kd.C_below (Kd.R_reads' HO.out).2.2 HB15.out) (Kd.R_reads' HO.out).2.1 (by have := HMDL.out; omega)).mono ?_; rintro e w16 ⟨rfl, hd⟩; have HB16 := Aside0.mk (below_step HB15.out hd.below); clear hd))
                go_ret
                exact ⟨rfl, below_step HL12.out.below HB16.out⟩
end Go.Proofs.YteaohgebocbehaaGreatDoor.Hand
end
