/- Texts of this claim, one behind the other; each begins with what it proves. Conditions as written in each theorem. -/
import Derived.Test.YteaohgebocbehaaGreatDoorHC0
import Derived.Test.YteaohgebocbehaaGreatDoorHC1
import Derived.Lib.CountLaws
import Derived.Lib.AtoiTie
import Derived.Lib.ItoaNum
import Derived.Lib.ItoaLen
import Derived.Test.YteaohgebocbehaaGreatDoorXAx10
import Derived.Test.YteaohgebocbehaaGreatDoorXAx3
import Derived.Outline
import Derived.Test.YteaohgebocbehaaGreatDoorXAx5
import Derived.Test.YteaohgebocbehaaGreatDoorXAx6
import Derived.Test.YteaohgebocbehaaGreatDoorXAx12
import Derived.Test.YteaohgebocbehaaGreatDoorXAx15
import Derived.Test.YteaohgebocbehaaGreatDoorXAx13
import Derived.Test.YteaohgebocbehaaGreatDoorXAx14
section
/- Parse of what Format writes: the plain part (lines, words). No conditions. -/
set_option linter.unusedVariables false
namespace Go.Proofs.YteaohgebocbehaaGreatDoor.Plain
open Go.Lib Go.Proofs.YteaohgebocbehaaGreatDoor.Hand
theorem indexByte_at (c : UInt8) (r : List UInt8) : ∀ l : List UInt8, (∀ b ∈ l, b ≠ c) → indexByte (l ++ c :: r) c = l.length
  | [], _ => by simp [indexByte]
  | b :: t, h => by
    have ih := indexByte_at c r t (fun x hx => h x (List.mem_cons_of_mem _ hx))
    have hb : (b == c) = false := beq_eq_false_iff_ne.2 (h b List.mem_cons_self)
    simp only [List.cons_append, indexByte, hb, ih, List.length_cons]
    simp
theorem indexByte_no (c : UInt8) : ∀ l : List UInt8, (∀ b ∈ l, b ≠ c) → indexByte l c = -1
  | [], _ => rfl
  | b :: t, h => by
    have ih := indexByte_no c t (fun x hx => h x (List.mem_cons_of_mem _ hx))
    have hb : (b == c) = false := beq_eq_false_iff_ne.2 (h b List.mem_cons_self)
    simp [indexByte, hb, ih]
theorem cut_at (l rest : List UInt8) (h : ∀ b ∈ l, b ≠ 10) : cut (l ++ 10 :: rest) [10] = (l, rest, true) := by
  unfold cut
  rw [index_one, indexByte_at 10 rest l h, if_pos (by omega)]
  simp
theorem linesOf_at (l rest : List UInt8) (h : ∀ b ∈ l, b ≠ 10) : linesOf (l ++ 10 :: rest) = l :: linesOf rest := by
  rw [linesOf_cons (by simp), cut_at l rest h]
theorem words_list (l : List UInt8) : (words l).map (fun w => w.data.toList) = split l [32] := splitB_data spaceB 0 _ _
theorem count_none (a : List UInt8) (h : ∀ b ∈ a, b ≠ 32) : a.count 32 = 0 := List.count_eq_zero.2 fun hm => h 32 hm rfl
theorem split_no (a : List UInt8) (h : ∀ b ∈ a, b ≠ 32) : split a [32] = [a] := by
  unfold split
  rw [count_one, count_none a h]
  rfl
theorem split_at' (a r : List UInt8) (h : ∀ b ∈ a, b ≠ 32) : split (a ++ 32 :: r) [32] = a :: split r [32] := by
  unfold split
  rw [count_one, count_one, List.count_append, count_none a h, List.count_cons_self, Nat.zero_add]
  have hi : index (a ++ 32 :: r) [32] = a.length := by rw [index_one, indexByte_at 32 r a h]
  simp only [splitK, hi]
  rw [if_neg (by simp)]
  simp
theorem decFrom_snoc (b : UInt8) : ∀ (l : List UInt8) (acc : Nat), decFrom acc (l ++ [b]) = (decFrom acc l).bind fun m => (digitVal b).map fun d => m * 10 + d
  | [], acc => by cases h : digitVal b <;> simp [decFrom, h]
  | x :: t, acc => by
    simp only [List.cons_append, decFrom]
    cases h : digitVal x with
    | none => simp
    | some d => simp only [decFrom_snoc b t]
theorem digit_val {d : Nat} (h : d < 10) : digitVal (UInt8.ofNat (48 + d)) = some d := by
  have : (UInt8.ofNat (48 + d)).toNat = 48 + d := by simp; omega
  unfold digitVal
  rw [this, if_pos (by omega)]
  congr 1
  omega
theorem dec_round (u : Nat) : decFrom 0 (decDigits u) = some u := by
  induction u using Nat.strongRecOn with
  | _ u ih =>
    rw [decDigits]
    split
    · rename_i h
      simp only [decFrom, digit_val h, Nat.zero_mul, Nat.zero_add]
    · rename_i h
      rw [decFrom_snoc, ih (u / 10) (by omega), Option.bind_some, digit_val (by omega)]
      simp
      omega
theorem dec_bytes (u : Nat) : ∀ b ∈ decDigits u, 48 ≤ b.toNat ∧ b.toNat ≤ 57 := by
  induction u using Nat.strongRecOn with
  | _ u ih =>
    intro b hb
    rw [decDigits] at hb
    split at hb
    · rename_i h
      rw [List.mem_singleton.1 hb]
      have : (UInt8.ofNat (48 + u)).toNat = 48 + u := by simp; omega
      omega
    · rename_i h
      rcases List.mem_append.1 hb with hb | hb
      · exact ih (u / 10) (by omega) b hb
      · rw [List.mem_singleton.1 hb]
        have : (UInt8.ofNat (48 + u % 10)).toNat = 48 + u % 10 := by simp; omega
        omega
theorem itoa_bytes (n : Int) : ∀ b ∈ Lib.itoa n, b ≠ 10 ∧ b ≠ 32 := by
  intro b hb
  unfold Lib.itoa at hb
  split at hb
  · rcases List.mem_cons.1 hb with rfl | hb
    · decide
    · have := dec_bytes _ b hb
      constructor <;> (rintro rfl; revert this; decide)
  · have := dec_bytes _ b hb
    constructor <;> (rintro rfl; revert this; decide)
theorem nDigits_le : ∀ (k u : Nat), u < 10 ^ (k + 1) → nDigits u ≤ k + 1
  | 0, u, h => by rw [nDigits_small (by simpa using h)]; exact Nat.le_refl _
  | k + 1, u, h => by
    rw [nDigits]
    split
    · omega
    · have := nDigits_le k (u / 10) (by rw [Nat.pow_succ] at h; omega)
      omega
theorem mag_round (u : Nat) (h : u < 10 ^ 18) : parseMag (decDigits u) = .ok u := by
  have hl := decDigits_length u
  have hn := nDigits_le 17 u h
  rw [parseMag_short _ (by omega)]
  unfold decNat
  rw [if_neg, dec_round]
  · rfl
  · intro he
    have : (decDigits u).length = 0 := by simpa using he
    have : nDigits u = 0 := by omega
    rw [nDigits] at this
    split at this <;> omega
theorem dec_ne (u : Nat) : decDigits u ≠ [] := by
  intro h
  rw [decDigits] at h
  split at h <;> simp at h
theorem atoi_round (n : Int) (h : n.natAbs < 10 ^ 18) : atoiV (Lib.itoa n) = n := by
  unfold atoiV
  have key : atoiAll (Lib.itoa n) = .ok n := by
    unfold Lib.itoa
    by_cases h0 : n < 0
    · rw [if_pos h0]
      simp only [atoiAll]
      rw [if_pos (by decide), mag_round _ h]
      have e : (45 : UInt8).toNat = 45 := rfl
      simp only [e, not_true_eq_false, false_and, if_false, true_and, if_true]
      rw [if_neg (by omega)]
      congr 1
      omega
    · rw [if_neg h0]
      obtain ⟨c, r, hcr⟩ : ∃ c r, decDigits n.toNat = c :: r := by
        cases hd : decDigits n.toNat with
        | nil => exact absurd hd (dec_ne _)
        | cons c r => exact ⟨c, r, rfl⟩
      have hc := dec_bytes n.toNat c (by rw [hcr]; exact List.mem_cons_self)
      have hm := mag_round n.toNat (by omega)
      rw [hcr] at hm ⊢
      simp only [atoiAll]
      rw [if_neg (by omega), hm]
      have h1 : ¬ c.toNat = 45 := by omega
      simp only [h1, not_false_eq_true, true_and, false_and, if_false]
      rw [if_neg (by omega)]
      congr 1
      omega
  rw [key]
def lineB (c : List Int) : List UInt8 := (c.flatMap fun l => Lib.itoa l ++ [32]) ++ [48]
theorem lineL_eq (c : List Int) : lineL c = lineB c ++ [10] := by simp [lineL, lineB]
theorem lineB_cons (x : Int) (t : List Int) : lineB (x :: t) = Lib.itoa x ++ 32 :: lineB t := by simp [lineB]
theorem lineB_bytes : ∀ (c : List Int), ∀ b ∈ lineB c, b ≠ 10
  | [], b, hb => by rw [show lineB [] = [48] from rfl] at hb; rw [List.mem_singleton.1 hb]; decide
  | x :: t, b, hb => by
    rw [lineB_cons] at hb
    rcases List.mem_append.1 hb with hb | hb
    · exact (itoa_bytes x b hb).1
    · rcases List.mem_cons.1 hb with rfl | hb
      · decide
      · exact lineB_bytes t b hb
theorem lineB_split : ∀ c : List Int, split (lineB c) [32] = c.map Lib.itoa ++ [[48]]
  | [] => split_no [48] (by decide)
  | x :: t => by
    rw [lineB_cons, split_at' _ _ (fun b hb => (itoa_bytes x b hb).2), lineB_split t]
    rfl
theorem lits_back (c : List Int) (h : ∀ x ∈ c, x.natAbs < 10 ^ 18) : lineLits (lineB c) = c := by
  have hw := words_list (lineB c)
  rw [lineB_split] at hw
  have e : lineLits (lineB c) = (((words (lineB c)).map fun w => w.data.toList).dropLast).map atoiV := by
    unfold lineLits
    rw [← List.map_dropLast, List.map_map]
    rfl
  rw [e, hw, List.dropLast_concat, List.map_map]
  conv => rhs; rw [← List.map_id c]
  exact List.map_congr_left fun x hx => atoi_round x (h x hx)
def headB (n : Int) (k : Nat) : List UInt8 := [112] ++ 32 :: ([99, 110, 102] ++ 32 :: (Lib.itoa n ++ 32 :: Lib.itoa k))
theorem headL_eq (n : Int) (k : Nat) : headL n k = headB n k ++ [10] := by simp [headL, headB]
theorem headB_bytes (n : Int) (k : Nat) : ∀ b ∈ headB n k, b ≠ 10 := by
  intro b hb
  simp only [headB, List.mem_append, List.mem_cons, List.not_mem_nil, or_false] at hb
  rcases hb with rfl | rfl | (rfl | rfl | rfl) | rfl | hb | rfl | hb
  all_goals first | decide | exact (itoa_bytes _ b hb).1
theorem headB_split (n : Int) (k : Nat) : split (headB n k) [32] = [[112], [99, 110, 102], Lib.itoa n, Lib.itoa k] := by
  unfold headB
  rw [split_at' _ _ (by decide), split_at' _ _ (by decide), split_at' _ _ (fun b hb => (itoa_bytes n b hb).2), split_no _ (fun b hb => (itoa_bytes k b hb).2)]
theorem head_words (n : Int) (k : Nat) : (words (headB n k)).length = 4 ∧ (wordAt (headB n k) 2).data.toList = Lib.itoa n := by
  have hw := words_list (headB n k)
  rw [headB_split] at hw
  have hl : (words (headB n k)).length = 4 := by
    have := congrArg List.length hw
    simpa using this
  refine ⟨hl, ?_⟩
  have h2 : ((words (headB n k)).map fun w => w.data.toList)[2]? = some (Lib.itoa n) := by rw [hw]; rfl
  rw [List.getElem?_map, List.getElem?_eq_getElem (by omega)] at h2
  unfold wordAt
  rw [List.getD_eq_getElem?_getD, List.getElem?_eq_getElem (show 2 < (words (headB n k)).length by omega)]
  simpa using h2
theorem run_lines (n : Int) : ∀ (cl done : List (List Int)), (∀ c ∈ cl, ∀ x ∈ c, x.natAbs < 10 ^ 18) → PP.run ⟨false, n, done⟩ (cl.map lineB) = some ⟨false, n, done ++ cl⟩
  | [], done, _ => by simp [PP.run]
  | c :: t, done, h => by
    simp only [List.map_cons, PP.run, PP.step]
    rw [if_neg (by simp), lits_back c (h c List.mem_cons_self)]
    simp only [Option.bind_some]
    rw [run_lines n t (done ++ [c]) (fun c hc => h c (List.mem_cons_of_mem _ hc))]
    simp
theorem lines_of_clauses : ∀ cl : List (List Int), linesOf (cl.flatMap lineL) = cl.map lineB
  | [] => rfl
  | c :: t => by
    rw [List.flatMap_cons, lineL_eq, List.append_assoc, List.singleton_append, linesOf_at _ _ (lineB_bytes c), lines_of_clauses t]
    rfl
theorem parse_back (n : Int) (cl : List (List Int)) (hv : validC n cl = true) (hn : n.natAbs < 10 ^ 18) (h : ∀ c ∈ cl, ∀ x ∈ c, x.natAbs < 10 ^ 18) : parseC (formatC n cl) = (n, cl, 0) := by
  have hf : formatC n cl = headB n cl.length ++ 10 :: cl.flatMap lineL := by
    unfold formatC fmtL
    rw [if_pos hv, headL_eq]
    simp
  have hrun : PP.run ⟨true, 0, []⟩ (linesOf (formatC n cl)) = some ⟨false, n, cl⟩ := by
    rw [hf, linesOf_at _ _ (headB_bytes n _), lines_of_clauses]
    simp only [PP.run, PP.step]
    rw [if_pos trivial, if_pos (head_words n _).1, (head_words n _).2, atoi_round n hn]
    simp only [Option.bind_some]
    exact run_lines n cl [] h
  unfold parseC
  rw [hrun]
  refine if_neg ?_
  rintro (h0 | h0)
  · rw [hf] at h0
    simp at h0
  · exact h0 rfl
theorem lits_le (l : List UInt8) : (lineLits l).length ≤ l.length + 2 := by
  rw [lineLits_len, words_len]
  have h3 := Plain.countB_le (toB l)
  have h4 : (toB l).size = l.length := rfl
  omega
theorem run_bound (m : Nat) : ∀ (ls : List (List UInt8)) (s r : PP), (∀ l ∈ ls, l.length ≤ m) → (∀ c ∈ s.cls, c.length ≤ m + 2) → PP.run s ls = some r → r.cls.length ≤ s.cls.length + ls.length ∧ ∀ c ∈ r.cls, c.length ≤ m + 2
  | [], s, r, _, hs, h => by
    simp only [PP.run, Option.some.injEq] at h
    subst h
    exact ⟨by simp, hs⟩
  | l :: t, s, r, hl, hs, h => by
    simp only [PP.run] at h
    obtain ⟨s', h1, h2⟩ := Option.bind_eq_some_iff.1 h
    have hb : s'.cls.length ≤ s.cls.length + 1 ∧ ∀ c ∈ s'.cls, c.length ≤ m + 2 := by
      unfold PP.step at h1
      split at h1
      · split at h1
        · injection h1 with h1
          subst h1
          exact ⟨by simp, hs⟩
        · cases h1
      · injection h1 with h1
        subst h1
        refine ⟨by simp, fun c hc => ?_⟩
        rcases List.mem_append.1 hc with hc | hc
        · exact hs c hc
        · rw [List.mem_singleton.1 hc]
          have := lits_le l
          have := hl l List.mem_cons_self
          omega
    have := run_bound m t s' r (fun l hl' => hl l (List.mem_cons_of_mem _ hl')) hb.2 h2
    refine ⟨?_, this.2⟩
    rw [List.length_cons]
    have := this.1
    have := hb.1
    omega
theorem parse_fine (text : List UInt8) (h : text.length ≤ 4294967296) : Fine (parseC text).2.1 := by
  unfold parseC
  cases hr : PP.run ⟨true, 0, []⟩ (linesOf text) with
  | none => exact ⟨Nat.zero_le _, by simp⟩
  | some s =>
    have hb := run_bound text.length (linesOf text) _ s (linesOf_line text) (by simp) hr
    have hl := linesOf_len text
    simp only
    split
    · exact ⟨Nat.zero_le _, by simp⟩
    · refine ⟨?_, fun c hc => ?_⟩
      · have := hb.1
        simp at this
        show s.cls.length ≤ _
        omega
      · have := hb.2 c hc
        omega
/-- What Parse answers is the error, or a formula whose text it is. -/
theorem parse_self (text : List UInt8) : parseC text = (0, [], 3) ∨ ((parseC text).2.2 = 0 ∧ formatC (parseC text).1 (parseC text).2.1 = text) := by
  unfold parseC
  cases hr : PP.run ⟨true, 0, []⟩ (linesOf text) with
  | none => exact .inl rfl
  | some s =>
    simp only
    by_cases h : text = [] ∨ formatC s.n s.cls ≠ text
    · rw [if_pos h]; exact .inl rfl
    · rw [if_neg h]
      refine .inr ⟨rfl, ?_⟩
      by_cases h2 : formatC s.n s.cls = text
      · exact h2
      · exact absurd (.inr h2) h
theorem format_nil (n : Int) (cl : List (List Int)) : formatC n cl = [] ↔ validC n cl = false := by
  unfold formatC
  cases h : validC n cl with
  | true => simp [fmtL, headL]
  | false => simp
theorem valid_small {n : Int} {cl : List (List Int)} (h : validC n cl = true) : n.natAbs < 10 ^ 18 ∧ ∀ c ∈ cl, ∀ x ∈ c, x.natAbs < 10 ^ 18 := by
  have h1 := (validC_iff n cl).1 h
  refine ⟨by have := h1.1; omega, fun c hc x hx => ?_⟩
  have h2 := ((clauseOk_iff n c).1 (h1.2 c hc)).2 x hx
  have := h1.1
  omega
theorem itoa_len (n : Int) (h : n.natAbs < 10 ^ 18) : (Lib.itoa n).length ≤ 21 := itoa_length_le n (by omega) (by omega)
theorem lineL_len : ∀ (c : List Int), (∀ x ∈ c, x.natAbs < 10 ^ 18) → (lineL c).length ≤ 22 * c.length + 2
  | [], _ => by decide
  | x :: t, h => by
    have ih := lineL_len t (fun y hy => h y (List.mem_cons_of_mem _ hy))
    have h1 := itoa_len x (h x List.mem_cons_self)
    have e : lineL (x :: t) = Lib.itoa x ++ 32 :: lineL t := by simp [lineL]
    rw [e, List.length_append, List.length_cons, List.length_cons]
    omega
theorem clauses_len : ∀ (cl : List (List Int)), (∀ c ∈ cl, ∀ x ∈ c, x.natAbs < 10 ^ 18) → (∀ c ∈ cl, c.length ≤ 30) → (cl.flatMap lineL).length ≤ 700 * cl.length
  | [], _, _ => by decide
  | c :: t, h, h2 => by
    have ih := clauses_len t (fun y hy => h y (List.mem_cons_of_mem _ hy)) (fun y hy => h2 y (List.mem_cons_of_mem _ hy))
    have h1 := lineL_len c (h c List.mem_cons_self)
    have h3 := h2 c List.mem_cons_self
    rw [List.flatMap_cons, List.length_append, List.length_cons]
    omega
theorem format_len (n : Int) (cl : List (List Int)) (h2 : ∀ c ∈ cl, c.length ≤ 30) (h3 : cl.length ≤ 40) : (formatC n cl).length < 4294967281 := by
  unfold formatC
  split
  · rename_i hv
    have hs := valid_small hv
    have h4 := clauses_len cl hs.2 h2
    have h5 := itoa_len n hs.1
    have h6 := itoa_len (cl.length : Int) (by omega)
    have h7 : (fmtL n cl).length = (Lib.itoa n).length + (Lib.itoa (cl.length : Int)).length + 8 + (cl.flatMap lineL).length := by
      simp [fmtL, headL]
      omega
    omega
  · decide
end Go.Proofs.YteaohgebocbehaaGreatDoor.Plain
end
section
/- CnfReturns: the walk. -/
set_option linter.unusedVariables false
set_option linter.unusedSimpArgs false
namespace Go.Proofs.YteaohgebocbehaaGreatDoor.Hand
open Go.RowKit Go.Lib Go.Shelf Go.Proofs.YteaohgebocbehaaGreatDoorW Go.Proofs.YteaohgebocbehaaGreatDoorW.PrintWords Go.Proofs.YteaohgebocbehaaGreatDoorW.PrintLast Go.Proofs.YteaohgebocbehaaGreatDoorW.PrintMore Go.Proofs.YteaohgebocbehaaGreatDoor.Plain Go.Proofs.YteaohgebocbehaaGreatDoor.XA
attribute [local go_sem] max2_int min2_int max_two min_two max_three min_three max_four min_four
theorem parse2_calls (t : List UInt8) (hs : t.length < 4294967281) (W : World) (hT : Tabs W) (r : Int × List (List Int) × Int) (hr : r = parseC t) :
    Calls Tryz.prog 26 #[.string (toB t)] W fun e w' => ∃ A c, e = .returned (.tuple #[.agg #[.int .i64 r.1, .slice A r.2.1.length c], .int .i64 r.2.2]) ∧ r.2.1.length ≤ c ∧ kL.C w' A r.2.1.length r.2.1 ∧ Below W.heap.size W w' := by
  subst hr
  refine (Parse_calls t hs W hT).mono ?_
  rintro e w' ⟨v, rfl, hN, hb⟩
  obtain ⟨A, c, rfl⟩ := Kd.N_slice hN
  exact ⟨A, c, rfl, (Kd.N_reads' hN).2.1, (Kd.N_reads' hN).2.2, hb⟩
theorem same2_calls (n : Int) (A A' : Option Addr) (c c' : Nat) (cl : List (List Int)) (W : World) (hr : kL.C W A cl.length cl) (hc : cl.length ≤ c) (hr' : kL.C W A' cl.length cl) (hc' : cl.length ≤ c') (hl : Fine cl) :
    Calls Tryz.prog 23 #[.agg #[.int .i64 n, .slice A cl.length c], .agg #[.int .i64 n, .slice A' cl.length c']] W fun e w' => e = .returned (.bool true) ∧ Below W.heap.size W w' := by
  have h := same_f n n cl cl (by have := hl.1; omega) (fun c hc => by have := hl.2 c hc; omega)
  rw [decide_eq_true rfl, decide_eq_true rfl] at h
  obtain ⟨k, h⟩ := h.rounds
  exact assessorref26_Same.calls k n A c cl n A' c' cl _ W hr hc hr' hc' h
set_option maxHeartbeats 16000000 in
set_option maxRecDepth 100000 in
theorem Returns_calls (n : Int) (A : Option Addr) (c : Nat) (cl : List (List Int)) (text : List UInt8) (w : World) (hr : kL.C w A cl.length cl) (hc : cl.length ≤ c) (hT : Tabs w) :
    Calls Tryz.prog 7 #[.agg #[.int .i64 n, .slice A cl.length c], .string (toB text)] w fun e w' => e = .returned (.bool true) ∧ Below w.heap.size w w' := by
  have hu24 := Tryz.underlying24
  have HT := Aside0.mk hT
  have HR := Aside0.mk hr
  have HC := Aside0.mk hc
  clear hT hr hc
  go_enter Tryz.func7, Tryz.ntmps7
  by_cases h1 : 40 < (cl.length : Int)
  · have d1 : decide (40 < (cl.length : Int)) = true := decide_eq_true h1
    clear h1
    go_wp2_with (first
      | ((with_reducible refine gate_dst (N := 2) rfl ?_); refine box_event ?hg (N := 2) ?hd (cs := #[.int .i64 n, .slice A cl.length c]) (t := 24) ?hr ?_; (case hd => rfl); (case hg => rfl); (case hr => first | (go_simp; done) | (go_simp; rfl)); intro g2 hg_ w2 h1_ h2_; have BK2 := Aside0.mk h1_; have HB2 := Aside0.mk h2_; have GEg2 := Aside0.mk hg_; clear h1_ h2_ hg_)
      | (go_at_call 10; refine (awake_calls w2 (HT.out.same HB2.out)).mono ?_; rintro e w3 ⟨rfl, hb⟩; have HL := Aside0.mk (LSt.later (⟨BK2.out, HB2.out⟩ : LSt w w2 g2 n A cl.length c) hb); have k0 := HL.out.cells.1; have k1 := HL.out.cells.2; clear hb))
    go_ret
    exact ⟨rfl, HL.out.below⟩
  have d1 : decide (40 < (cl.length : Int)) = false := decide_eq_false h1
  have H1 := Aside0.mk h1
  clear h1
  go_wp2_with (first
    | ((with_reducible refine gate_dst (N := 2) rfl ?_); refine box_event ?hg (N := 2) ?hd (cs := #[.int .i64 n, .slice A cl.length c]) (t := 24) ?hr ?_; (case hd => rfl); (case hg => rfl); (case hr => first | (go_simp; done) | (go_simp; rfl)); intro g2 hg_ w2 h1_ h2_; have BK2 := Aside0.mk h1_; have HB2 := Aside0.mk h2_; have GEg2 := Aside0.mk hg_; clear h1_ h2_ hg_)
    | (go_at_call 10; refine (awake_calls w2 (HT.out.same HB2.out)).mono ?_; rintro e w3 ⟨rfl, hb⟩; have HL := Aside0.mk (LSt.later (⟨BK2.out, HB2.out⟩ : LSt w w2 g2 n A cl.length c) hb); have k0 := HL.out.cells.1; have k1 := HL.out.cells.2; clear hb))
  refine (small_calls 0 0 40 A c cl w3 (Kd.C_below HR.out HL.out.below) HC.out (by have := H1.out; omega)).mono ?_
  rintro e w4 ⟨rfl, hb⟩
  have HL4 := Aside0.mk (HL.out.later hb)
  obtain ⟨k40, k41⟩ := HL4.out.cells
  clear hb k0 k1 BK2 HB2 HL
  obtain ⟨sm, hsm⟩ : ∃ b, b = smallC 0 cl 0 40 := ⟨_, rfl⟩
  rw [← hsm]
  have HSM := Aside0.mk hsm
  clear hsm
  cases sm with
  | false =>
    go_wp2
    go_ret
    exact ⟨rfl, HL4.out.below⟩
  | true =>
    by_cases h2 : 400 < (text.length : Int)
    · have d2 : decide (400 < ((toB text).size : Int)) = true := decide_eq_true h2
      clear h2
      go_wp2
      go_ret
      exact ⟨rfl, HL4.out.below⟩
    have d2 : decide (400 < ((toB text).size : Int)) = false := decide_eq_false h2
    have H2 := Aside0.mk h2
    clear h2
    have HF := Aside0.mk (show Fine cl from ⟨by have := H1.out; omega, fun c hc => by
      have h := HSM.out
      unfold smallC at h
      have h3 := (Bool.and_eq_true _ _).mp h.symm
      have := of_decide_eq_true (List.all_eq_true.1 h3.1 c hc)
      omega⟩)
    have HFM := Aside0.mk (Format_calls n A c cl w4 (Kd.C_below HR.out HL4.out.below) HC.out HF.out (HT.out.same HL4.out.below))
    obtain ⟨ft, hft⟩ : ∃ f, f = formatC n cl := ⟨_, rfl⟩
    rw [← hft] at HFM
    have HFT := Aside0.mk hft
    clear hft
    by_cases hv : validC n cl = true
    · have he : (toB ft).toList.isEmpty = false := by
        rw [toB_list, HFT.out]
        cases hx : formatC n cl with
        | nil => rw [(format_nil n cl).1 hx] at hv; cases hv
        | cons b t => rfl
      have hsm := HSM.out
      have h30 : ∀ c ∈ cl, c.length ≤ 30 := fun c hc => by
        unfold smallC at hsm
        exact of_decide_eq_true (List.all_eq_true.1 ((Bool.and_eq_true _ _).mp hsm.symm).1 c hc)
      have hs := valid_small hv
      have HLN := Aside0.mk (show ft.length < 4294967281 by rw [HFT.out]; exact format_len n cl h30 (by have := H1.out; omega))
      have HPB := Aside0.mk (show (n, cl, (0 : Int)) = parseC ft by rw [HFT.out]; exact (parse_back n cl hv hs.1 hs.2).symm)
      clear hv hsm h30 hs
      go_wp2_with (go_at_call 28; refine (show Calls Tryz.prog 28 #[.agg #[.int .i64 n, .slice A cl.length c]] w4 (fun e w' => e = .returned (.string (toB ft)) ∧ Below w4.heap.size w4 w') from HFM.out).mono ?_; rintro e w5 ⟨rfl, hb⟩; have HL5 := Aside0.mk (HL4.out.later hb); have k50 := HL5.out.cells.1; have k51 := HL5.out.cells.2; clear hb)
      refine (parse2_calls ft HLN.out w5 (HT.out.same HL5.out.below) (n, cl, 0) HPB.out).mono ?_
      rintro e w6 ⟨A6, c6, rfl, hc6, hr6, hb6⟩
      have HC6 := Aside0.mk (And.intro hc6 hr6)
      have HL60 := Aside0.mk (HL5.out.later hb6)
      clear hc6 hr6 hb6 k50 k51 HL5
      simp only at HC6 ⊢
      go_wp2_with (first
        | ((with_reducible refine gate_dst (N := 6) rfl ?_); refine box_event ?hg (N := 6) ?hd (cs := #[.int .i64 0, .slice none 0 0]) (t := 24) ?hr ?_; (case hd => rfl); (case hg => rfl); (case hr => first | (go_simp; done) | (go_simp; rfl)); intro g6 hg_ w61 h1_ h2_; have BK6 := Aside0.mk h1_; have HB6 := Aside0.mk h2_; have GEg6 := Aside0.mk hg_; clear h1_ h2_ hg_)
        | (((with_reducible refine gate_ (.store 24 (.tmp 6) (.tmp 35)) rfl ?_); refine st_box rfl rfl 24 (.tmp 6) (.tmp 35) rfl (g := g6) (T := 24) (cur := #[.int .i64 0, .slice none 0 0]) (u := .agg #[.int .i64 n, .slice A6 cl.length c6]) rfl rfl (BK6.out) size24 rfl (by simp [Value.cells, Value.oneCell']) ?_; intro w62 h1_ h2_; have BK62 := Aside0.mk h1_; have HG62 := Aside0.mk h2_; clear h1_ h2_); have HX62 := Aside0.mk (show Below w6.heap.size w6 w62 from below_grown HB6.out HB6.out.size HG62.out (by rw [GEg6.out]; exact Nat.le_refl _)); have HL62 := Aside0.mk (HL60.out.later HX62.out); have q0 : w62.cell? ⟨g6, 0, none⟩ = some (.int .i64 n) := (blk_cell BK62.out 0).trans rfl; have q1 : w62.cell? ⟨g6, 1, none⟩ = some (.slice A6 cl.length c6) := (blk_cell BK62.out 1).trans rfl; have q2 := HL62.out.cells.1; have q3 := HL62.out.cells.2))
      refine (same2_calls n A A6 c c6 cl w62 (Kd.C_below HR.out HL62.out.below) HC.out (Kd.C_below HC6.out.2 HX62.out) HC6.out.1 HF.out).mono ?_
      rintro e w6 ⟨rfl, hb⟩
      have HL6 := Aside0.mk (HL62.out.later hb)
      clear hb q0 q1 q2 q3 HL62 HX62 BK62 HG62 BK6 HB6 GEg6
      obtain ⟨r, hr⟩ : ∃ r, r = parseC text := ⟨_, rfl⟩
      have HPR := Aside0.mk (And.intro hr (parse2_calls text (by have := H2.out; omega) w6 (HT.out.same HL6.out.below) r hr))
      clear hr
      go_wp2_with (fail)
      refine HPR.out.2.mono ?_
      rintro e w7 ⟨A8, c8, rfl, hc8, hr8, hb8⟩
      have HL7 := Aside0.mk (HL6.out.later hb8)
      have HC8 := Aside0.mk (And.intro hc8 hr8)
      clear hc8 hr8 hb8
      obtain ⟨rn, rc, re⟩ := r
      simp only at HC8 ⊢
      rcases parse_self text with hp | ⟨hp1, hp2⟩
      · have hq := HPR.out.1.trans hp
        injection hq with hq1 hq
        injection hq with hq2 hq3
        subst hq1 hq2 hq3
        clear hp HPR
        go_wp2_with (first
          | ((with_reducible refine gate_dst (N := 8) rfl ?_); refine box_event ?hg (N := 8) ?hd (cs := #[.int .i64 0, .slice none 0 0]) (t := 24) ?hr ?_; (case hd => rfl); (case hg => rfl); (case hr => first | (go_simp; done) | (go_simp; rfl)); intro g8 hg_ w8 h1_ h2_; have BK8 := Aside0.mk h1_; have HB8 := Aside0.mk h2_; have GEg8 := Aside0.mk hg_; clear h1_ h2_ hg_)
          | (((with_reducible refine gate_ (.store 24 (.tmp 8) (.tmp 50)) rfl ?_); refine st_box rfl rfl 24 (.tmp 8) (.tmp 50) rfl (g := g8) (T := 24) (cur := #[.int .i64 0, .slice none 0 0]) (u := .agg #[.int .i64 0, .slice A8 0 c8]) rfl rfl (BK8.out) size24 rfl (by simp [Value.cells, Value.oneCell']) ?_; intro w9 h1_ h2_; have BK9 := Aside0.mk h1_; have HG9 := Aside0.mk h2_; clear h1_ h2_); have q0 : w9.cell? ⟨g8, 0, none⟩ = some (.int .i64 0) := (blk_cell BK9.out 0).trans rfl; have q1 : w9.cell? ⟨g8, 1, none⟩ = some (.slice A8 0 c8) := (blk_cell BK9.out 1).trans rfl; have HX9 := Aside0.mk (show Below w7.heap.size w7 w9 from below_grown HB8.out HB8.out.size HG9.out (by rw [GEg8.out]; exact Nat.le_refl _))))
        go_ret
        exact ⟨rfl, below_step HL7.out.below HX9.out⟩
      · have hr1 := HPR.out.1
        have hre : re = 0 := by rw [← hr1] at hp1; exact hp1
        have hfo : formatC rn rc = text := by rw [← hr1] at hp2; exact hp2
        have HFI : Aside0 (Fine rc) := ⟨by have h := parse_fine text (by have := H2.out; omega); rw [← hr1] at h; exact h⟩
        subst hre
        have HFO := Aside0.mk hfo
        clear hp1 hp2 hr1 hfo HPR
        have hqq : ((toB text).toList == (toB text).toList) = true := by simp
        go_wp2_with (first
          | ((with_reducible refine gate_dst (N := 8) rfl ?_); refine box_event ?hg (N := 8) ?hd (cs := #[.int .i64 0, .slice none 0 0]) (t := 24) ?hr ?_; (case hd => rfl); (case hg => rfl); (case hr => first | (go_simp; done) | (go_simp; rfl)); intro g8 hg_ w8 h1_ h2_; have BK8 := Aside0.mk h1_; have HB8 := Aside0.mk h2_; have GEg8 := Aside0.mk hg_; clear h1_ h2_ hg_)
          | (((with_reducible refine gate_ (.store 24 (.tmp 8) (.tmp 50)) rfl ?_); refine st_box rfl rfl 24 (.tmp 8) (.tmp 50) rfl (g := g8) (T := 24) (cur := #[.int .i64 0, .slice none 0 0]) (u := .agg #[.int .i64 rn, .slice A8 rc.length c8]) rfl rfl (BK8.out) size24 rfl (by simp [Value.cells, Value.oneCell']) ?_; intro w9 h1_ h2_; have BK9 := Aside0.mk h1_; have HG9 := Aside0.mk h2_; clear h1_ h2_); have q0 : w9.cell? ⟨g8, 0, none⟩ = some (.int .i64 rn) := (blk_cell BK9.out 0).trans rfl; have q1 : w9.cell? ⟨g8, 1, none⟩ = some (.slice A8 rc.length c8) := (blk_cell BK9.out 1).trans rfl; have HX9 := Aside0.mk (show Below w7.heap.size w7 w9 from below_grown HB8.out HB8.out.size HG9.out (by rw [GEg8.out]; exact Nat.le_refl _))))
        refine (show Calls Tryz.prog 28 #[.agg #[.int .i64 rn, .slice A8 rc.length c8]] w9 (fun e w' => e = .returned (.string (toB text)) ∧ Below w9.heap.size w9 w') from by rw [← HFO.out]; exact Format_calls rn A8 c8 rc w9 (Kd.C_below HC8.out.2 HX9.out) HC8.out.1 HFI.out (HT.out.same (below_step HL7.out.below HX9.out))).mono ?_
        rintro e w10 ⟨rfl, hb⟩
        have HB10 := Aside0.mk hb
        clear hb
        go_wp2
        go_ret
        exact ⟨rfl, below_step (below_step HL7.out.below HX9.out) HB10.out⟩
    · have hv' : validC n cl = false := by simpa using hv
      have he : (toB ft).toList.isEmpty = true := by rw [HFT.out, (format_nil n cl).2 hv']; simp [toB, ByteArray.toList_eq]
      have HV := Aside0.mk hv'
      clear hv hv'
      go_wp2_with (go_at_call 28; refine (show Calls Tryz.prog 28 #[.agg #[.int .i64 n, .slice A cl.length c]] w4 (fun e w' => e = .returned (.string (toB ft)) ∧ Below w4.heap.size w4 w') from HFM.out).mono ?_; rintro e w5 ⟨rfl, hb⟩; have HL5 := Aside0.mk (HL4.out.later hb); have k50 := HL5.out.cells.1; have k51 := HL5.out.cells.2; clear hb)
      refine (show Calls Tryz.prog 15 #[.agg #[.int .i64 n, .slice A cl.length c]] w5 (fun e w' => e = .returned (.bool false) ∧ Below w5.heap.size w5 w') from by rw [← HV.out]; exact Valid_calls n A c cl w5 (Kd.C_below HR.out HL5.out.below) HC.out HF.out).mono ?_
      rintro e w6 ⟨rfl, hb⟩
      have HL6 := Aside0.mk (HL5.out.later hb)
      clear hb k50 k51 HL5
      obtain ⟨r, hr⟩ : ∃ r, r = parseC text := ⟨_, rfl⟩
      have HPR := Aside0.mk (And.intro hr (parse2_calls text (by have := H2.out; omega) w6 (HT.out.same HL6.out.below) r hr))
      clear hr
      go_wp2_with (fail)
      refine HPR.out.2.mono ?_
      rintro e w7 ⟨A8, c8, rfl, hc8, hr8, hb8⟩
      have HL7 := Aside0.mk (HL6.out.later hb8)
      have HC8 := Aside0.mk (And.intro hc8 hr8)
      clear hc8 hr8 hb8
      obtain ⟨rn, rc, re⟩ := r
      simp only at HC8 ⊢
      rcases parse_self text with hp | ⟨hp1, hp2⟩
      · have hq := HPR.out.1.trans hp
        injection hq with hq1 hq
        injection hq with hq2 hq3
        subst hq1 hq2 hq3
        clear hp HPR
        go_wp2_with (first
          | ((with_reducible refine gate_dst (N := 8) rfl ?_); refine box_event ?hg (N := 8) ?hd (cs := #[.int .i64 0, .slice none 0 0]) (t := 24) ?hr ?_; (case hd => rfl); (case hg => rfl); (case hr => first | (go_simp; done) | (go_simp; rfl)); intro g8 hg_ w8 h1_ h2_; have BK8 := Aside0.mk h1_; have HB8 := Aside0.mk h2_; have GEg8 := Aside0.mk hg_; clear h1_ h2_ hg_)
          | (((with_reducible refine gate_ (.store 24 (.tmp 8) (.tmp 50)) rfl ?_); refine st_box rfl rfl 24 (.tmp 8) (.tmp 50) rfl (g := g8) (T := 24) (cur := #[.int .i64 0, .slice none 0 0]) (u := .agg #[.int .i64 0, .slice A8 0 c8]) rfl rfl (BK8.out) size24 rfl (by simp [Value.cells, Value.oneCell']) ?_; intro w9 h1_ h2_; have BK9 := Aside0.mk h1_; have HG9 := Aside0.mk h2_; clear h1_ h2_); have q0 : w9.cell? ⟨g8, 0, none⟩ = some (.int .i64 0) := (blk_cell BK9.out 0).trans rfl; have q1 : w9.cell? ⟨g8, 1, none⟩ = some (.slice A8 0 c8) := (blk_cell BK9.out 1).trans rfl; have HX9 := Aside0.mk (show Below w7.heap.size w7 w9 from below_grown HB8.out HB8.out.size HG9.out (by rw [GEg8.out]; exact Nat.le_refl _))))
        go_ret
        exact ⟨rfl, below_step HL7.out.below HX9.out⟩
      · have hr1 := HPR.out.1
        have hre : re = 0 := by rw [← hr1] at hp1; exact hp1
        have hfo : formatC rn rc = text := by rw [← hr1] at hp2; exact hp2
        have HFI : Aside0 (Fine rc) := ⟨by have h := parse_fine text (by have := H2.out; omega); rw [← hr1] at h; exact h⟩
        subst hre
        have HFO := Aside0.mk hfo
        clear hp1 hp2 hr1 hfo HPR
        have hqq : ((toB text).toList == (toB text).toList) = true := by simp
        go_wp2_with (first
          | ((with_reducible refine gate_dst (N := 8) rfl ?_); refine box_event ?hg (N := 8) ?hd (cs := #[.int .i64 0, .slice none 0 0]) (t := 24) ?hr ?_; (case hd => rfl); (case hg => rfl); (case hr => first | (go_simp; done) | (go_simp; rfl)); intro g8 hg_ w8 h1_ h2_; have BK8 := Aside0.mk h1_; have HB8 := Aside0.mk h2_; have GEg8 := Aside0.mk hg_; clear h1_ h2_ hg_)
          | (((with_reducible refine gate_ (.store 24 (.tmp 8) (.tmp 50)) rfl ?_); refine st_box rfl rfl 24 (.tmp 8) (.tmp 50) rfl (g := g8) (T := 24) (cur := #[.int .i64 0, .slice none 0 0]) (u := .agg #[.int .i64 rn, .slice A8 rc.length c8]) rfl rfl (BK8.out) size24 rfl (by simp [Value.cells, Value.oneCell']) ?_; intro w9 h1_ h2_; have BK9 := Aside0.mk h1_; have HG9 := Aside0.mk h2_; clear h1_ h2_); have q0 : w9.cell? ⟨g8, 0, none⟩ = some (.int .i64 rn) := (blk_cell BK9.out 0).trans rfl; have q1 : w9.cell? ⟨g8, 1, none⟩ = some (.slice A8 rc.length c8) := (blk_cell BK9.out 1).trans rfl; have HX9 := Aside0.mk (show Below w7.heap.size w7 w9 from below_grown HB8.out HB8.out.size HG9.out (by rw [GEg8.out]; exact Nat.le_refl _))))
        refine (show Calls Tryz.prog 28 #[.agg #[.int .i64 rn, .slice A8 rc.length c8]] w9 (fun e w' => e = .returned (.string (toB text)) ∧ Below w9.heap.size w9 w') from by rw [← HFO.out]; exact Format_calls rn A8 c8 rc w9 (Kd.C_below HC8.out.2 HX9.out) HC8.out.1 HFI.out (HT.out.same (below_step HL7.out.below HX9.out))).mono ?_
        rintro e w10 ⟨rfl, hb⟩
        have HB10 := Aside0.mk hb
        clear hb
        go_wp2
        go_ret
        exact ⟨rfl, below_step (below_step HL7.out.below HX9.out) HB10.out⟩
end Go.Proofs.YteaohgebocbehaaGreatDoor.Hand
end
section
/- The reference's IsClause and Valid answer as the plain functions. Conditions: lists shorter than 2^62. -/
set_option linter.unusedVariables false
set_option linter.unusedSimpArgs false
namespace Go.Proofs.YteaohgebocbehaaGreatDoor.Plain
open Go.RowKit Go.Proofs.YteaohgebocbehaaGreatDoor.XA Go.Proofs.YteaohgebocbehaaGreatDoorW.PrintWords
theorem rvar_f {x : Int} (h0 : -9223372036854775807 ≤ x) (h1 : x ≤ 9223372036854775807) : assessorref26_Variable.f x = some (x.natAbs : Int) := by
  unfold assessorref26_Variable.f
  split
  · rw [w64 (by omega) (by omega)]; congr 1; omega
  · congr 1; omega
theorem isClause_ev (n : Int) (hn0 : 0 ≤ n) (hn : n ≤ 4611686018427387904) (c : List Int) (hc : c.length ≤ 4611686018427387904) :
    ∀ (d : Nat) (x : Int) (last : Nat), 0 ≤ x → x ≤ c.length → (c.length : Int) - x = d → (x = 0 → last = 0) → (0 < x → (last : Int) = (rd c (x - 1)).natAbs ∧ (last : Int) ≤ n) → Ev (fun k => assessorref26_IsClause.l0 k c n x) (nOk n last (c.drop x.toNat)) := by
  intro d
  induction d with
  | zero =>
    intro x last h0 h1 hd _ _
    rw [List.drop_eq_nil_of_le (by omega)]
    exact Ev.step (f := fun _ => some true) (fun k => by simp only [assessorref26_IsClause.l0]; rw [if_neg (by omega)]) (Ev.now _)
  | succ d ih =>
    intro x last h0 h1 hd hl0 hl1
    have hlt : x < (c.length : Int) := by omega
    rw [drop_rd h0 hlt]
    simp only [nOk]
    have hw : wrap64 (-n) = -n := w64 (by omega) (by omega)
    have hw2 : wrap64 (x + 1) = x + 1 := w64 (by omega) (by omega)
    have hw3 : 0 < x → wrap64 (x - 1) = x - 1 := fun _ => w64 (by omega) (by omega)
    have bad : ∀ b : Bool, b = false → (∀ k, assessorref26_IsClause.l0 (k + 1) c n x = assessorref26_IsClause.j1 k c n x true) → Ev (fun k => assessorref26_IsClause.l0 k c n x) (b && nOk n (rd c x).natAbs (c.drop (x + 1).toNat)) := fun b hb h => by
      rw [hb, Bool.false_and]
      refine Ev.step (f := fun k => assessorref26_IsClause.j1 k c n x true) h ?_
      exact Ev.step (f := fun _ => some false) (fun k => by simp only [assessorref26_IsClause.j1]; rfl) (Ev.now _)
    by_cases h2 : rd c x = 0
    · exact bad _ (decide_eq_false (by omega)) (fun k => by simp only [assessorref26_IsClause.l0]; rw [if_pos hlt, if_pos h0, if_pos h2])
    by_cases h3 : rd c x < -n
    · exact bad _ (decide_eq_false (by omega)) (fun k => by simp only [assessorref26_IsClause.l0]; rw [if_pos hlt, if_pos h0, if_neg h2, if_pos (by rw [hw]; exact h3)])
    by_cases h4 : rd c x > n
    · exact bad _ (decide_eq_false (by omega)) (fun k => by simp only [assessorref26_IsClause.l0]; rw [if_pos hlt, if_pos h0, if_neg h2, if_neg (by rw [hw]; exact h3), if_pos h4])
    have go : ∀ b : Bool, (b = decide (((rd c x).natAbs : Int) ≤ last)) → (∀ k, assessorref26_IsClause.l0 (k + 1) c n x = assessorref26_IsClause.j1 k c n x b) → Ev (fun k => assessorref26_IsClause.l0 k c n x) (decide (-n ≤ rd c x ∧ rd c x ≤ n ∧ last < (rd c x).natAbs) && nOk n (rd c x).natAbs (c.drop (x + 1).toNat)) := fun b hb h => by
      by_cases h5 : ((rd c x).natAbs : Int) ≤ last
      · refine bad _ (decide_eq_false (by omega)) (fun k => by rw [h k, hb, decide_eq_true h5])
      · rw [decide_eq_true (show -n ≤ rd c x ∧ rd c x ≤ n ∧ last < (rd c x).natAbs by omega), Bool.true_and]
        refine Ev.step (f := fun k => assessorref26_IsClause.j1 k c n x false) (fun k => by rw [h k, hb, decide_eq_false h5]) ?_
        refine Ev.step (f := fun k => assessorref26_IsClause.l0 k c n (x + 1)) (fun k => by simp only [assessorref26_IsClause.j1]; rw [hw2]; rfl) (ih (x + 1) _ (by omega) (by omega) (by omega) (by omega) (fun _ => ⟨by rw [show x + 1 - 1 = x by omega], by omega⟩))
    by_cases h5 : x > 0
    · obtain ⟨e1, e2⟩ := hl1 h5
      refine go _ rfl (fun k => ?_)
      simp only [assessorref26_IsClause.l0]
      rw [if_pos hlt, if_pos h0, if_neg h2, if_neg (by rw [hw]; exact h3), if_neg h4, if_pos h5, rvar_f (by omega) (by omega)]
      simp only [Option.bind_some]
      rw [hw3 h5, if_pos (by omega), if_pos (by omega), rvar_f (by omega) (by omega)]
      simp only [Option.bind_some, e1]
    · have e : last = 0 := hl0 (by omega)
      refine go false (by rw [e]; exact (decide_eq_false (by omega)).symm) (fun k => ?_)
      simp only [assessorref26_IsClause.l0]
      rw [if_pos hlt, if_pos h0, if_neg h2, if_neg (by rw [hw]; exact h3), if_neg h4, if_neg h5]
theorem isClause_f (n : Int) (hn0 : 0 ≤ n) (hn : n ≤ 4611686018427387904) (c : List Int) (hc : c.length ≤ 4611686018427387904) : Ev (fun k => assessorref26_IsClause.f k c n) (clauseOk n c) :=
  isClause_ev n hn0 hn c hc c.length 0 0 (by omega) (by omega) (by omega) (fun _ => rfl) (fun h => absurd h (by omega))
theorem rvalid_ev (n : Int) (hn0 : 0 ≤ n) (hn : n ≤ 65536) (cl : List (List Int)) (hc : ∀ c ∈ cl, c.length ≤ 4611686018427387904) (hl : cl.length ≤ 4611686018427387904) :
    ∀ (d : Nat) (x : Int), 0 ≤ x → x ≤ cl.length → (cl.length : Int) - x = d → Ev (fun k => assessorref26_Valid.l0 k x n cl) ((cl.drop x.toNat).all (clauseOk n)) := by
  intro d
  induction d with
  | zero =>
    intro x h0 h1 hd
    rw [List.drop_eq_nil_of_le (by omega)]
    exact Ev.step (f := fun _ => some true) (fun k => by simp only [assessorref26_Valid.l0]; rw [if_neg (by omega)]) (Ev.now _)
  | succ d ih =>
    intro x h0 h1 hd
    have hlt : x < (cl.length : Int) := by omega
    have hw2 : wrap64 (x + 1) = x + 1 := w64 (by omega) (by omega)
    rw [drop_rdL h0 hlt, List.all_cons]
    have hm : rd_L1 cl x ∈ cl := by rw [rdL_get h0 hlt]; exact List.getElem_mem _
    have hf := isClause_f n hn0 (by omega) (rd_L1 cl x) (hc _ hm)
    refine Ev.step (f := fun k => (assessorref26_IsClause.f k (rd_L1 cl x) n).bind fun t => if t = true then assessorref26_Valid.l0 k (wrap64 (x + 1)) n cl else some false) (fun k => by simp only [assessorref26_Valid.l0]; rw [if_pos hlt, if_pos h0]) (Ev.bind hf ?_)
    cases hb : clauseOk n (rd_L1 cl x) with
    | false => simpa using Ev.now false
    | true =>
      rw [hw2]
      simpa using ih (x + 1) (by omega) (by omega) (by omega)
theorem rvalid_f (n : Int) (cl : List (List Int)) (hc : ∀ c ∈ cl, c.length ≤ 4611686018427387904) (hl : cl.length ≤ 4611686018427387904) : Ev (fun k => assessorref26_Valid.f k n cl) (validC n cl) := by
  unfold validC
  by_cases h1 : n < 0
  · rw [decide_eq_false (by omega), Bool.false_and]
    refine Ev.congr (f := fun k => assessorref26_Valid.j0 k true n cl) (fun k => by unfold assessorref26_Valid.f; rw [if_pos h1]) ?_
    exact Ev.step (f := fun _ => some false) (fun k => by simp only [assessorref26_Valid.j0]; rfl) (Ev.now _)
  · by_cases h2 : n > 65536
    · rw [decide_eq_false (by omega), Bool.false_and]
      refine Ev.congr (f := fun k => assessorref26_Valid.j0 k true n cl) (fun k => by unfold assessorref26_Valid.f; rw [if_neg h1, if_pos h2]) ?_
      exact Ev.step (f := fun _ => some false) (fun k => by simp only [assessorref26_Valid.j0]; rfl) (Ev.now _)
    · by_cases h3 : (cl.length : Int) > 262144
      · rw [decide_eq_false (by omega), Bool.false_and]
        refine Ev.congr (f := fun k => assessorref26_Valid.j0 k true n cl) (fun k => by unfold assessorref26_Valid.f; rw [if_neg h1, if_neg h2, decide_eq_true h3]) ?_
        exact Ev.step (f := fun _ => some false) (fun k => by simp only [assessorref26_Valid.j0]; rfl) (Ev.now _)
      · rw [decide_eq_true (by omega), Bool.true_and]
        refine Ev.congr (f := fun k => assessorref26_Valid.j0 k false n cl) (fun k => by unfold assessorref26_Valid.f; rw [if_neg h1, if_neg h2, decide_eq_false h3]) ?_
        refine Ev.step (f := fun k => assessorref26_Valid.l0 k 0 n cl) (fun k => by simp only [assessorref26_Valid.j0]; rfl) ?_
        exact rvalid_ev n (by omega) (by omega) cl hc hl cl.length 0 (by omega) (by omega) (by omega)
end Go.Proofs.YteaohgebocbehaaGreatDoor.Plain
end
section
/- The reference's Decimal, Line and Format answer as strconv.Itoa and the plain format. Conditions: numbers below 2^62, short clauses. -/
set_option linter.unusedVariables false
set_option linter.unusedSimpArgs false
namespace Go.Proofs.YteaohgebocbehaaGreatDoor.Plain
open Go.RowKit Go.Lib Go.Proofs.YteaohgebocbehaaGreatDoor.XA Go.Proofs.YteaohgebocbehaaGreatDoorW.PrintWords
theorem toB_append (a b : List UInt8) : toB a ++ toB b = toB (a ++ b) := by
  apply ByteArray.ext
  simp [toB, ByteArray.data_append]
theorem toB_size (l : List UInt8) : (toB l).size = l.length := by simp [toB, ByteArray.size]
theorem toB_extract (l : List UInt8) (a b : Nat) : (toB l).extract a b = toB ((l.take b).drop a) := by
  apply ByteArray.ext
  apply Array.ext'
  simp [toB, ByteArray.data_extract, List.drop_take]
theorem digit_cut {d : Nat} (h : d < 10) : (⟨#[48, 49, 50, 51, 52, 53, 54, 55, 56, 57]⟩ : ByteArray).extract d (d + 1) = toB [UInt8.ofNat (48 + d)] := by
  have : d = 0 ∨ d = 1 ∨ d = 2 ∨ d = 3 ∨ d = 4 ∨ d = 5 ∨ d = 6 ∨ d = 7 ∨ d = 8 ∨ d = 9 := by omega
  rcases this with rfl | rfl | rfl | rfl | rfl | rfl | rfl | rfl | rfl | rfl <;> rfl
theorem itoa_neg {n : Int} (h : n < 0) : itoa n = 45 :: decDigits n.natAbs := by unfold itoa; rw [if_pos h]
theorem itoa_nat {n : Int} (h : ¬ n < 0) : itoa n = decDigits n.natAbs := by unfold itoa; rw [if_neg h]; congr 1; omega
theorem dec_small {u : Nat} (h : u < 10) : decDigits u = [UInt8.ofNat (48 + u)] := by rw [decDigits, dif_pos h]
theorem dec_big {u : Nat} (h : ¬ u < 10) : decDigits u = decDigits (u / 10) ++ [UInt8.ofNat (48 + u % 10)] := by rw [decDigits, dif_neg h]
theorem itoa_short {n : Int} (h : n.natAbs ≤ 4611686018427387904) : (itoa n).length ≤ 21 := itoa_length_le n (by omega) (by omega)
theorem decimal_f : ∀ (u : Nat) (n : Int), n.natAbs = u → u ≤ 4611686018427387904 → Ev (fun k => assessorref26_Decimal.f k n) (toB (itoa n)) := by
  intro u
  induction u using Nat.strongRecOn with
  | _ u ih =>
    intro n hn hu
    obtain ⟨d, hd⟩ : ∃ d : Nat, d = n.natAbs % 10 := ⟨_, rfl⟩
    have hd10 : d < 10 := by omega
    have hcut := digit_cut hd10
    -- from the digit on
    have tail : ∀ b : Bool, b = decide (n < 0 ∧ n > -10) → Ev (fun k => assessorref26_Decimal.j1 k n (toB [UInt8.ofNat (48 + d)]) b) (toB (itoa n)) := fun b hb => by
      by_cases h1 : n < 0 ∧ n > -10
      · rw [hb, decide_eq_true h1]
        refine Ev.step (f := fun _ => some (toB (itoa n))) (fun k => ?_) (Ev.now _)
        simp only [assessorref26_Decimal.j1]
        rw [if_pos trivial, toB_size, if_pos (by simp), itoa_neg h1.1, dec_small (by omega), show n.natAbs = d by omega]
        exact congrArg some (toB_append [45] [UInt8.ofNat (48 + d)])
      · rw [hb, decide_eq_false h1]
        by_cases h2 : n ≥ 0 ∧ n < 10
        · refine Ev.step (f := fun _ => some (toB (itoa n))) (fun k => ?_) (Ev.now _)
          simp only [assessorref26_Decimal.j1]
          rw [if_neg (by simp), if_pos h2.1, if_pos h2.2, itoa_nat (by omega), dec_small (by omega), show n.natAbs = d by omega]
        · have htd : Int.tdiv n 10 = if n < 0 then -((n.natAbs / 10 : Nat) : Int) else ((n.natAbs / 10 : Nat) : Int) := by
            split
            · rename_i h
              have e : n = -((n.natAbs : Nat) : Int) := by omega
              rw [e, Int.neg_tdiv, Int.natAbs_neg]
              rfl
            · rename_i h
              have e : n = ((n.natAbs : Nat) : Int) := by omega
              rw [e]
              rfl
          have hw : wrap64 (Int.tdiv n 10) = Int.tdiv n 10 := by
            rw [htd]
            split <;> exact w64 (by omega) (by omega)
          have hab : (Int.tdiv n 10).natAbs = n.natAbs / 10 := by rw [htd]; split <;> omega
          have hrec := ih (n.natAbs / 10) (by omega) (Int.tdiv n 10) hab (by omega)
          have hsh := itoa_short (n := Int.tdiv n 10) (by omega)
          have heq : itoa (Int.tdiv n 10) ++ [UInt8.ofNat (48 + d)] = itoa n := by
            by_cases h3 : n < 0
            · rw [itoa_neg h3, itoa_neg (by rw [htd, if_pos h3]; omega), hab, dec_big (u := n.natAbs) (by omega), ← hd]
              rfl
            · rw [itoa_nat h3, itoa_nat (by rw [htd, if_neg h3]; omega), hab, dec_big (u := n.natAbs) (by omega), ← hd]
          have hfin : ∀ k : Nat, (if (toB (itoa (Int.tdiv n 10))).size + (toB [UInt8.ofNat (48 + d)]).size ≤ 9223372036854775807 then some (toB (itoa (Int.tdiv n 10)) ++ toB [UInt8.ofNat (48 + d)]) else none) = some (toB (itoa n)) := fun k => by
            rw [toB_size, toB_size, if_pos (by simp; omega), toB_append, heq]
          refine Ev.step (f := fun k => (assessorref26_Decimal.f k (Int.tdiv n 10)).bind fun t => if t.size + (toB [UInt8.ofNat (48 + d)]).size ≤ 9223372036854775807 then some (t ++ toB [UInt8.ofNat (48 + d)]) else none) (fun k => ?_) (Ev.bind hrec (Ev.congr hfin (Ev.now _)))
          simp only [assessorref26_Decimal.j1]
          rw [if_neg (by simp), hw]
          by_cases h4 : n ≥ 0
          · rw [if_pos h4, if_neg (by omega)]
          · rw [if_neg h4]
    have hj0 : Ev (fun k => assessorref26_Decimal.j0 k n (d : Int)) (toB (itoa n)) := by
      have hw1 : wrap64 ((d : Int) + 1) = (d : Int) + 1 := w64 (by omega) (by omega)
      have e1 : ((d : Int)).toNat = d := by omega
      have e2 : ((d : Int) + 1).toNat = d + 1 := by omega
      by_cases h : n < 0
      · refine Ev.step (fun k => ?_) (tail (decide (n > -10)) (decide_eq_decide.2 (by omega)))
        simp only [assessorref26_Decimal.j0]
        rw [if_pos (by omega), hw1, if_pos (by omega), if_pos (by omega), if_pos h, e1, e2, hcut]
      · refine Ev.step (fun k => ?_) (tail false (decide_eq_false (by omega)).symm)
        simp only [assessorref26_Decimal.j0]
        rw [if_pos (by omega), hw1, if_pos (by omega), if_pos (by omega), if_neg h, e1, e2, hcut]
    by_cases h : n < 0
    · refine Ev.step (fun k => ?_) hj0
      have e : Int.tmod n 10 = -(d : Int) := by
        have e : n = -((n.natAbs : Nat) : Int) := by omega
        rw [e, Int.neg_tmod, hd]
        rfl
      simp only [assessorref26_Decimal.f]
      rw [if_pos h, e, Int.neg_neg, w64 (by omega) (by omega)]
    · refine Ev.step (fun k => ?_) hj0
      have e : Int.tmod n 10 = (d : Int) := by
        have e : n = ((n.natAbs : Nat) : Int) := by omega
        rw [e, hd]
        rfl
      simp only [assessorref26_Decimal.f]
      rw [if_neg h, e]
/-- The literals of a line, before its end. -/
def litsL (c : List Int) : List UInt8 := c.flatMap fun l => itoa l ++ [32]
theorem lineL_lits (c : List Int) : lineL c = litsL c ++ [48, 10] := rfl
theorem litsL_snoc (c : List Int) (x : Int) : litsL (c ++ [x]) = litsL c ++ itoa x ++ [32] := by simp [litsL]
theorem litsL_len : ∀ (c : List Int), (∀ x ∈ c, x.natAbs ≤ 4611686018427387904) → (litsL c).length ≤ 22 * c.length
  | [], _ => by simp [litsL]
  | x :: t, h => by
    have h1 := itoa_short (h x List.mem_cons_self)
    have h2 := litsL_len t (fun y hy => h y (List.mem_cons_of_mem _ hy))
    have e : litsL (x :: t) = itoa x ++ [32] ++ litsL t := by simp [litsL]
    rw [e]
    simp only [List.length_append, List.length_cons, List.length_nil]
    omega
theorem rline_ev (c : List Int) (hc : ∀ x ∈ c, x.natAbs ≤ 4611686018427387904) (hl : c.length ≤ 1000000) : ∀ (d : Nat) (x : Int), 0 ≤ x → x ≤ c.length → (c.length : Int) - x = d → Ev (fun k => assessorref26_Line.l0 k c (toB (litsL (c.take x.toNat))) x) (toB (lineL c)) := by
  intro d
  induction d with
  | zero =>
    intro x h0 h1 hd
    have hlen := litsL_len c hc
    rw [List.take_of_length_le (by omega)]
    refine Ev.step (f := fun _ => some (toB (lineL c))) (fun k => ?_) (Ev.now _)
    simp only [assessorref26_Line.l0]
    rw [if_neg (by omega), toB_size, if_pos (by omega)]
    exact congrArg some (toB_append (litsL c) [48, 10])
  | succ d ih =>
    intro x h0 h1 hd
    have hlt : x < (c.length : Int) := by omega
    have hw : wrap64 (x + 1) = x + 1 := w64 (by omega) (by omega)
    have hm : rd c x ∈ c := by rw [rd_get h0 hlt]; exact List.getElem_mem _
    have hb := hc _ hm
    have hsh := itoa_short hb
    have htk : c.take (x + 1).toNat = c.take x.toNat ++ [rd c x] := by
      rw [show (x + 1).toNat = x.toNat + 1 by omega, List.take_add_one, List.getElem?_eq_getElem (by omega), rd_get h0 hlt]
      rfl
    have hlen := litsL_len (c.take x.toNat) (fun y hy => hc y (List.mem_of_mem_take hy))
    have hlen2 : (c.take x.toNat).length ≤ c.length := by rw [List.length_take]; omega
    have h := ih (x + 1) (by omega) (by omega) (by omega)
    rw [htk, litsL_snoc] at h
    refine Ev.step (f := fun k => (assessorref26_Decimal.f k (rd c x)).bind fun t => if (toB (litsL (c.take x.toNat))).size + t.size ≤ 9223372036854775807 then (if (toB (litsL (c.take x.toNat)) ++ t).size + 1 ≤ 9223372036854775807 then assessorref26_Line.l0 k c (toB (litsL (c.take x.toNat)) ++ t ++ (⟨#[32]⟩ : ByteArray)) (x + 1) else none) else none) (fun k => by simp only [assessorref26_Line.l0]; rw [if_pos hlt, if_pos h0, hw]) (Ev.bind (decimal_f _ _ rfl hb) (Ev.congr (fun k => ?_) h))
    rw [toB_size, toB_size, if_pos (by omega), toB_append, toB_size, if_pos (by simp only [List.length_append]; omega)]
    exact congrArg (fun b => assessorref26_Line.l0 k c b (x + 1)) (toB_append _ [32])
theorem rline_f (c : List Int) (hc : ∀ x ∈ c, x.natAbs ≤ 4611686018427387904) (hl : c.length ≤ 1000000) : Ev (fun k => assessorref26_Line.f k c) (toB (lineL c)) := by
  have h := rline_ev c hc hl c.length 0 (by omega) (by omega) (by omega)
  exact h
theorem lineL_short (c : List Int) (hc : ∀ x ∈ c, x.natAbs ≤ 4611686018427387904) (hl : c.length ≤ 1000000) : (lineL c).length ≤ 30000000 := by
  have := litsL_len c hc
  rw [lineL_lits]
  simp only [List.length_append, List.length_cons, List.length_nil]
  omega
theorem rformat_l0 (n : Int) (cl : List (List Int)) (hc : ∀ c ∈ cl, (∀ x ∈ c, x.natAbs ≤ 4611686018427387904) ∧ c.length ≤ 1000000) (hl : cl.length ≤ 1000000) : ∀ (d : Nat) (x : Int) (s : List UInt8), 0 ≤ x → x ≤ cl.length → (cl.length : Int) - x = d → s.length + 30000000 * d ≤ 4611686018427387904 → Ev (fun k => assessorref26_Format.l0 k (toB s) x n cl) (toB (s ++ (cl.drop x.toNat).flatMap lineL)) := by
  intro d
  induction d with
  | zero =>
    intro x s h0 h1 hd hs
    rw [List.drop_eq_nil_of_le (by omega)]
    simp only [List.flatMap_nil, List.append_nil]
    exact Ev.step (f := fun _ => some (toB s)) (fun k => by simp only [assessorref26_Format.l0]; rw [if_neg (by omega)]) (Ev.now _)
  | succ d ih =>
    intro x s h0 h1 hd hs
    have hlt : x < (cl.length : Int) := by omega
    have hw : wrap64 (x + 1) = x + 1 := w64 (by omega) (by omega)
    have hm : rd_L1 cl x ∈ cl := by rw [rdL_get h0 hlt]; exact List.getElem_mem _
    have hb := hc _ hm
    have hsh := lineL_short _ hb.1 hb.2
    have h := ih (x + 1) (s ++ lineL (rd_L1 cl x)) (by omega) (by omega) (by omega) (by simp only [List.length_append]; omega)
    rw [drop_rdL h0 hlt, List.flatMap_cons]
    rw [List.append_assoc] at h
    refine Ev.step (f := fun k => (assessorref26_Line.f k (rd_L1 cl x)).bind fun t => if (toB s).size + t.size ≤ 9223372036854775807 then assessorref26_Format.l0 k (toB s ++ t) (x + 1) n cl else none) (fun k => by simp only [assessorref26_Format.l0]; rw [if_pos hlt, if_pos h0, hw]) (Ev.bind (rline_f _ hb.1 hb.2) (Ev.congr (fun k => ?_) h))
    rw [toB_size, toB_size, if_pos (by omega), toB_append]
theorem rformat_f (n : Int) (cl : List (List Int)) (hl : cl.length ≤ 1000000) (hc : ∀ c ∈ cl, c.length ≤ 1000000) : Ev (fun k => assessorref26_Format.f k n cl) (toB (formatC n cl)) := by
  have hv := rvalid_f n cl (fun c h => by have := hc c h; omega) (by omega)
  refine Ev.congr (fun k => by unfold assessorref26_Format.f; rfl) (Ev.bind hv ?_)
  unfold formatC
  cases hvc : validC n cl with
  | false =>
    simp only [Bool.false_eq_true, if_false]
    exact Ev.now (toB [])
  | true =>
    simp only [if_true]
    obtain ⟨⟨h0n, hn, _⟩, hcl⟩ := (validC_iff n cl).1 hvc
    have hd1 := decimal_f _ n rfl (by omega)
    have hd2 := decimal_f _ (cl.length : Int) rfl (by omega)
    have hs1 := itoa_short (n := n) (by omega)
    have hs2 := itoa_short (n := (cl.length : Int)) (by omega)
    have hcl' : ∀ c ∈ cl, (∀ x ∈ c, x.natAbs ≤ 4611686018427387904) ∧ c.length ≤ 1000000 := fun c h => ⟨fun x hx => by
      have := ((clauseOk_iff n c).1 (hcl c h)).2 x hx
      omega, hc c h⟩
    have hf := rformat_l0 n cl hcl' hl cl.length 0 (headL n cl.length) (by omega) (by omega) (by omega) (by unfold headL; simp only [List.length_append, List.length_cons, List.length_nil]; omega)
    simp only [Int.toNat_zero, List.drop_zero] at hf
    refine Ev.bind hd1 (Ev.congr (f := fun k => (assessorref26_Decimal.f k (cl.length : Int)).bind fun t => if (toB ([112, 32, 99, 110, 102, 32] ++ itoa n ++ [32])).size + t.size ≤ 9223372036854775807 then (if (toB ([112, 32, 99, 110, 102, 32] ++ itoa n ++ [32]) ++ t).size + 1 ≤ 9223372036854775807 then assessorref26_Format.l0 k (toB ([112, 32, 99, 110, 102, 32] ++ itoa n ++ [32]) ++ t ++ (⟨#[10]⟩ : ByteArray)) 0 n cl else none) else none) (fun k => ?_) (Ev.bind hd2 (Ev.congr (fun k => ?_) hf)))
    · have e1 : (⟨#[112, 32, 99, 110, 102, 32]⟩ : ByteArray) ++ toB (itoa n) = toB ([112, 32, 99, 110, 102, 32] ++ itoa n) := toB_append _ _
      have e2 : toB ([112, 32, 99, 110, 102, 32] ++ itoa n) ++ (⟨#[32]⟩ : ByteArray) = toB ([112, 32, 99, 110, 102, 32] ++ itoa n ++ [32]) := toB_append _ [32]
      rw [e1, e2, toB_size, toB_size, if_pos (by omega), if_pos (by simp only [List.length_append, List.length_cons, List.length_nil]; omega)]
    · rw [toB_size, toB_size, if_pos (by simp only [List.length_append, List.length_cons, List.length_nil]; omega), toB_append, toB_size, if_pos (by simp only [List.length_append, List.length_cons, List.length_nil]; omega)]
      have e3 : toB ([112, 32, 99, 110, 102, 32] ++ itoa n ++ [32] ++ itoa (cl.length : Int)) ++ (⟨#[10]⟩ : ByteArray) = toB (headL n cl.length) := toB_append _ [10]
      rw [e3]
end Go.Proofs.YteaohgebocbehaaGreatDoor.Plain
end
section
/- The reference's Format: the walk. Condition: a formula of at most a million clauses of at most a million literals. -/
set_option linter.unusedVariables false
set_option linter.unusedSimpArgs false
namespace Go.Proofs.YteaohgebocbehaaGreatDoor.Hand
open Go.RowKit Go.Lib Go.Shelf Go.Proofs.YteaohgebocbehaaGreatDoor.Reg Go.Proofs.YteaohgebocbehaaGreatDoorW Go.Proofs.YteaohgebocbehaaGreatDoorW.PrintWords Go.Proofs.YteaohgebocbehaaGreatDoorW.PrintLast Go.Proofs.YteaohgebocbehaaGreatDoorW.PrintMore Go.Proofs.YteaohgebocbehaaGreatDoor.Plain Go.Proofs.YteaohgebocbehaaGreatDoor.XA
attribute [local go_sem] max2_int min2_int max_two min_two max_three min_three max_four min_four
theorem rdec_calls (x : Int) (hx : x.natAbs ≤ 4611686018427387904) (t : ByteArray) (ht : t = numB x) (W : World) :
    Calls Tryz.prog 69 #[.int .i64 x] W fun e w' => e = .returned (.string t) ∧ Drawn0 W w' := by
  obtain ⟨k, h⟩ := (decimal_f _ x rfl hx).rounds
  rw [ht]
  exact assessorref26_Decimal.calls k x _ W h
theorem rline_calls (A : Option Addr) (c : Nat) (l : List Int) (W : World) (hr : kI.C W A l.length l) (hc : l.length ≤ c) (hx : ∀ x ∈ l, x.natAbs ≤ 4611686018427387904) (hl : l.length ≤ 1000000) (t : ByteArray) (ht : t = toB (lineL l)) :
    Calls Tryz.prog 70 #[.slice A l.length c] W fun e w' => e = .returned (.string t) ∧ Drawn0 W w' := by
  obtain ⟨k, h⟩ := (rline_f l hx hl).rounds
  rw [ht]
  exact assessorref26_Line.calls k A c l _ W hr hc h
theorem rvalidF_calls (n : Int) (A : Option Addr) (c : Nat) (cl : List (List Int)) (W : World) (hr : kL.C W A cl.length cl) (hc : cl.length ≤ c) (hf : Fine cl) (b : Bool) (hb : b = validC n cl) :
    Calls Tryz.prog 16 #[.agg #[.int .i64 n, .slice A cl.length c]] W fun e w' => e = .returned (.bool b) ∧ Below W.heap.size W w' := by
  obtain ⟨k, h⟩ := (rvalid_f n cl (fun c hc => by have := hf.2 c hc; omega) (by have := hf.1; omega)).rounds
  rw [hb]
  exact assessorref26_Valid.calls k n A c cl _ W hr hc h
set_option maxHeartbeats 16000000 in
set_option maxRecDepth 100000 in
theorem rformat_calls (n : Int) (A : Option Addr) (c : Nat) (cl : List (List Int)) (w : World) (hr : kL.C w A cl.length cl) (hc : cl.length ≤ c) (hf : cl.length ≤ 1000000 ∧ ∀ c ∈ cl, c.length ≤ 1000000) :
    Calls Tryz.prog 29 #[.agg #[.int .i64 n, .slice A cl.length c]] w fun e w' => e = .returned (.string (toB (formatC n cl))) ∧ Below w.heap.size w w' := by
  have hu24 := Tryz.underlying24
  have HR := Aside0.mk hr
  have HC := Aside0.mk hc
  have HF := Aside0.mk hf
  have HFI := Aside0.mk (show Fine cl from ⟨by have := hf.1; omega, fun c h => by have := hf.2 c h; omega⟩)
  clear hr hc hf
  obtain ⟨vb, hvb⟩ : ∃ b, b = validC n cl := ⟨_, rfl⟩
  have HVB := Aside0.mk hvb
  clear hvb
  go_enter Tryz.func29, Tryz.ntmps29
  cases vb with
  | false =>
    go_wp2_with (first
      | (((with_reducible refine gate_dst (N := 1) rfl ?_); refine box_event ?hg (N := 1) ?hd (cs := #[.int .i64 n, .slice A cl.length c]) (t := 24) ?hr ?_; (case hd => rfl); (case hg => rfl); (case hr => first | (go_simp; done) | (go_simp; rfl)); intro g2 hg_ w2 h1_ h2_; have BK2 := Aside0.mk h1_; have HB2 := Aside0.mk h2_; have GEg2 := Aside0.mk hg_; clear h1_ h2_ hg_); have q0 : w2.cell? ⟨g2, 0, none⟩ = some (.int .i64 n) := (blk_cell BK2.out 0).trans rfl; have q1 : w2.cell? ⟨g2, 1, none⟩ = some (.slice A cl.length c) := (blk_cell BK2.out 1).trans rfl)
      | (go_at_call 16; refine (rvalidF_calls n A c cl w2 (Kd.C_below HR.out HB2.out) HC.out HFI.out false HVB.out).mono ?_; rintro e w3 ⟨rfl, hb⟩; have HL := Aside0.mk (LSt.later (⟨BK2.out, HB2.out⟩ : LSt w w2 g2 n A cl.length c) hb); clear hb))
    go_ret
    refine ⟨?_, HL.out.below⟩
    unfold formatC
    rw [if_neg (by rw [← HVB.out]; simp)]
    rfl
  | true =>
    have hvi := (validC_iff n cl).1 HVB.out.symm
    have n0 : 0 ≤ n := hvi.1.1
    have n1 : n ≤ 65536 := hvi.1.2.1
    have k1 : (cl.length : Int) ≤ 262144 := hvi.1.2.2
    have HLIT := Aside0.mk (show ∀ c ∈ cl, ∀ x ∈ c, x.natAbs ≤ 4611686018427387904 from fun c hc x hx => by
      have := ((clauseOk_iff n c).1 (hvi.2 c hc)).2 x hx
      omega)
    clear hvi
    obtain ⟨s1, es1⟩ : ∃ s1, s1 = numB n := ⟨_, rfl⟩
    obtain ⟨s2, es2⟩ : ∃ s2, s2 = numB (cl.length : Int) := ⟨_, rfl⟩
    have z1 : s1.size ≤ 21 := by rw [es1]; exact numB_size (wf64 (by omega) (by omega))
    have z2 : s2.size ≤ 21 := by rw [es2]; exact numB_size (wf64 (by omega) (by omega))
    have hi1 := rdec_calls n (by omega) s1 es1
    have hi2 := rdec_calls (cl.length : Int) (by omega) s2 es2
    have hh : ((⟨#[112, 32, 99, 110, 102, 32]⟩ : ByteArray) ++ s1 ++ ⟨#[32]⟩ ++ s2 ++ ⟨#[10]⟩) = toB (headL n cl.length) := by
      rw [es1, es2]
      apply ByteArray.ext
      apply Array.ext'
      simp [ByteArray.data_append, numB, headL, toB]
    have hl0 : (headL n cl.length).length ≤ 50 := by
      rw [← toB_size, ← hh]
      simp only [ByteArray.size_append]
      show (6 + s1.size + 1 + s2.size + 1) ≤ _
      omega
    have HH := Aside0.mk hh
    have HL0 := Aside0.mk hl0
    have HI1 := Aside0.mk hi1
    have HI2 := Aside0.mk hi2
    have f1 : ((9223372036854775807 : Nat) < 6 + s1.size) = False := eq_false (by omega)
    have f2 : ((9223372036854775807 : Nat) < 6 + s1.size + 1) = False := eq_false (by omega)
    have f3 : ((9223372036854775807 : Nat) < 6 + s1.size + 1 + s2.size) = False := eq_false (by omega)
    have f4 : ((9223372036854775807 : Nat) < 6 + s1.size + 1 + s2.size + 1) = False := eq_false (by omega)
    have f1' : ((9223372036854775807 : Nat) < (⟨#[112, 32, 99, 110, 102, 32]⟩ : ByteArray).size + s1.size) = False := eq_false (by show ¬ _ < 6 + s1.size; omega)
    have NK := Aside0.mk (And.intro n0 (And.intro n1 k1))
    clear es1 es2 z1 z2 n0 n1 k1 hi1 hi2 hh hl0
    go_upto_region 3 with (first
      | (((with_reducible refine gate_dst (N := 1) rfl ?_); refine box_event ?hg (N := 1) ?hd (cs := #[.int .i64 n, .slice A cl.length c]) (t := 24) ?hr ?_; (case hd => rfl); (case hg => rfl); (case hr => first | (go_simp; done) | (go_simp; rfl)); intro g2 hg_ w2 h1_ h2_; have BK2 := Aside0.mk h1_; have HB2 := Aside0.mk h2_; have GEg2 := Aside0.mk hg_; clear h1_ h2_ hg_); have q0 : w2.cell? ⟨g2, 0, none⟩ = some (.int .i64 n) := (blk_cell BK2.out 0).trans rfl; have q1 : w2.cell? ⟨g2, 1, none⟩ = some (.slice A cl.length c) := (blk_cell BK2.out 1).trans rfl)
      | (go_at_call 16; refine (rvalidF_calls n A c cl w2 (Kd.C_below HR.out HB2.out) HC.out HFI.out true HVB.out).mono ?_; rintro e w3 ⟨rfl, hb⟩; have HL := Aside0.mk (LSt.later (⟨BK2.out, HB2.out⟩ : LSt w w2 g2 n A cl.length c) hb); have k0 := HL.out.cells.1; have k1 := HL.out.cells.2; clear hb))
    clear BK2 HB2 q0 q1
    refine start_ (n := 12) (S := fun W' => W'.cell? ⟨g2, 0, none⟩ = some (.int .i64 n) ∧ W'.cell? ⟨g2, 1, none⟩ = some (.slice A cl.length c)) (ds := []) #[false, false, false, false, false, false, false, false, false, false, false, false] (by kernel_rfl) rfl rfl (⟨k0, k1⟩) (fun hHeld => ?_)
    refine pure_ (i := 0) (N := some 8) (v := ?_) (a' := ?_) #[true, false, false, false, false, false, false, false, false, false, false, false] rfl rfl (by kernel_rfl) (fun _ _ _ h => h) (Or.inl ⟨by rfl, ?_⟩) ?_ ?_
    rotate_left
    · intro w'
      go_simp
      with_reducible rfl
    rotate_left
    · simp only [Act.put, sA, sZ, sS, i64_w]
      rfl
    refine take_ (i := 1) (N := some 9) (v := ?_) (a' := ?_) #[true, true, false, false, false, false, false, false, false, false, false, false] rfl rfl (by kernel_rfl) (fun _ _ _ h => h) (Or.inl ⟨by rfl, ?_⟩) hHeld ?_ ?_
    rotate_left
    · rintro w' ⟨s0_, s1_⟩
      go_simp
      with_reducible rfl
    rotate_left
    · simp only [Act.put, sA, sZ, sS, i64_w]
      rfl
    refine pure_ (i := 5) (N := some 13) (v := ?_) (a' := ?_) #[true, true, false, false, false, true, false, false, false, false, false, false] rfl rfl (by kernel_rfl) (fun _ _ _ h => h) (Or.inl ⟨by rfl, ?_⟩) ?_ ?_
    rotate_left
    · intro w'
      go_simp
      with_reducible rfl
    rotate_left
    · simp only [Act.put, sA, sZ, sS, i64_w]
      rfl
    refine take_ (i := 6) (N := some 14) (v := ?_) (a' := ?_) #[true, true, false, false, false, true, true, false, false, false, false, false] rfl rfl (by kernel_rfl) (fun _ _ _ h => h) (Or.inl ⟨by rfl, ?_⟩) hHeld ?_ ?_
    rotate_left
    · rintro w' ⟨s0_, s1_⟩
      go_simp
      with_reducible rfl
    rotate_left
    · simp only [Act.put, sA, sZ, sS, i64_w]
      rfl
    refine pure_ (i := 7) (N := some 15) (v := ?_) (a' := ?_) #[true, true, false, false, false, true, true, true, false, false, false, false] rfl rfl (by kernel_rfl) (fun _ _ _ h => h) (Or.inl ⟨by rfl, ?_⟩) ?_ ?_
    rotate_left
    · intro w'
      go_simp
      with_reducible rfl
    rotate_left
    · simp only [Act.put, sA, sZ, sS, i64_w]
      rfl
    refine one_ (i := 2) (N := some 10) #[true, true, true, false, false, true, true, true, false, false, false, false] rfl rfl (by kernel_rfl) (by decide) (fun K hK => ?_)
    refine call_ 69 #[.int .i64 n] (by rfl) rfl (by go_simp; try rfl) ?_
    refine (HI1.out w3.drew).mono ?_
    rintro e w4 ⟨rfl, hd⟩
    have HB4 := Aside0.mk (below_step (below_drewN w3 1) hd.below)
    have HL4 := Aside0.mk (HL.out.later HB4.out)
    clear hd
    refine ⟨_, rfl, ?_⟩
    refine hK.out _ _ HL4.out.cells (fun hHeld => ?_)
    clear hK K
    refine norm_ (a' := ?_) ?_ ?_
    rotate_left
    · show Act.put _ (some 10) _ = _
      simp only [Act.put, sA, sZ, sS, i64_w]
      rfl
    refine pure_ (i := 3) (N := some 11) (v := ?_) (a' := ?_) #[true, true, true, true, false, true, true, true, false, false, false, false] rfl rfl (by kernel_rfl) (fun _ _ _ h => h) (Or.inl ⟨by rfl, ?_⟩) ?_ ?_
    rotate_left
    · intro w'
      go_simp
      with_reducible rfl
    rotate_left
    · simp only [Act.put, sA, sZ, sS, i64_w]
      rfl
    refine pure_ (i := 4) (N := some 12) (v := ?_) (a' := ?_) #[true, true, true, true, true, true, true, true, false, false, false, false] rfl rfl (by kernel_rfl) (fun _ _ _ h => h) (Or.inl ⟨by rfl, ?_⟩) ?_ ?_
    rotate_left
    · intro w'
      go_simp
      with_reducible rfl
    rotate_left
    · simp only [Act.put, sA, sZ, sS, i64_w]
      rfl
    refine one_ (i := 8) (N := some 16) #[true, true, true, true, true, true, true, true, true, false, false, false] rfl rfl (by kernel_rfl) (by decide) (fun K hK => ?_)
    refine call_ 69 #[.int .i64 (cl.length : Int)] (by rfl) rfl (by go_simp; try rfl) ?_
    refine (HI2.out w4).mono ?_
    rintro e w5 ⟨rfl, hd⟩
    have HL5 := Aside0.mk (HL4.out.later hd.below)
    clear hd
    refine ⟨_, rfl, ?_⟩
    refine hK.out _ _ HL5.out.cells (fun hHeld => ?_)
    clear hK K
    refine norm_ (a' := ?_) ?_ ?_
    rotate_left
    · show Act.put _ (some 16) _ = _
      simp only [Act.put, sA, sZ, sS, i64_w]
      rfl
    refine pure_ (i := 9) (N := some 17) (v := ?_) (a' := ?_) #[true, true, true, true, true, true, true, true, true, true, false, false] rfl rfl (by kernel_rfl) (fun _ _ _ h => h) (Or.inl ⟨by rfl, ?_⟩) ?_ ?_
    rotate_left
    · intro w'
      go_simp
      with_reducible rfl
    rotate_left
    · simp only [Act.put, sA, sZ, sS, i64_w]
      rfl
    refine pure_ (i := 10) (N := some 18) (v := ?_) (a' := ?_) #[true, true, true, true, true, true, true, true, true, true, true, false] rfl rfl (by kernel_rfl) (fun _ _ _ h => h) (Or.inl ⟨by rfl, ?_⟩) ?_ ?_
    rotate_left
    · intro w'
      go_simp
      with_reducible rfl
    rotate_left
    · simp only [Act.put, sA, sZ, sS, i64_w]
      rfl
    refine pure_ (i := 11) (N := some 3) (v := ?_) (a' := ?_) #[true, true, true, true, true, true, true, true, true, true, true, true] rfl rfl (by kernel_rfl) (fun _ _ _ h => h) (Or.inl ⟨by rfl, ?_⟩) ?_ ?_
    rotate_left
    · intro w'
      go_simp
      with_reducible rfl
    rotate_left
    · simp only [Act.put, sA, sZ, sS, i64_w]
      rfl
    refine done_ (by kernel_rfl) ?_
    rw [HH.out]
    clear hHeld f1 f2 f3 f4 f1' HI1 HI2 k0 k1 HL HL4 HB4
    (try go_wp2)
    go_loopg [3, 4] cl.length (fun d v3 v4 wr => ∃ (x : Int) (sb : ByteArray), v3 = .string sb ∧ v4 = .int .i64 x ∧ Aside0 (0 ≤ x ∧ x + d = cl.length) ∧ Aside0 (LSt w wr g2 n A cl.length c) ∧ (∃ s, Aside0 (sb = toB s ∧ s = headL n cl.length ++ (cl.take x.toNat).flatMap lineL ∧ (s.length : Int) ≤ 50 + x * 30000000)))
    case atStart => exact ⟨0, _, rfl, rfl, ⟨by omega, by omega⟩, HL5, _, ⟨rfl, by simp, by have := HL0.out; omega⟩⟩
    case round =>
      obtain ⟨x, sb, rfl, rfl, HX, HS, s, HSB⟩ := hrel
      obtain ⟨k0, k1⟩ := HS.out.cells
      cases gk with
      | zero =>
        have h1 : decide (x < (cl.length : Int)) = false := decide_eq_false (by have := HX.out; omega)
        go_wp2
        go_ret
        refine ⟨?_, HS.out.below⟩
        have e : (cl.take x.toNat) = cl := List.take_of_length_le (by have := HX.out; omega)
        rw [HSB.out.1, HSB.out.2.1, e]
        unfold formatC
        rw [if_pos HVB.out.symm]
        rfl
      | succ d1 =>
        have c1 : x < (cl.length : Int) := by have := HX.out; omega
        have p0 := HX.out.1
        obtain ⟨ad, A0, c0, e1, hx0, hc0, hrc⟩ := at_L1 HR.out x p0 c1
        cases e1
        have hx1 := (HS.out.below.cell (World.block_lt_of_cell? w _ hx0)).trans hx0
        have hmem : rd_L1 cl x ∈ cl := by rw [rdL_get p0 c1]; exact List.getElem_mem _
        have hstep : (cl.take (x + 1).toNat).flatMap lineL = (cl.take x.toNat).flatMap lineL ++ lineL (rd_L1 cl x) := by
          rw [show (x + 1).toNat = x.toNat + 1 by omega, List.take_succ_eq_append_getElem (by omega), List.flatMap_append, rdL_get p0 c1]
          simp
        obtain ⟨a, ha⟩ : ∃ a : Int, a = x + 1 := ⟨_, rfl⟩
        have ka : IntKind.i64.wrap (x + 1) = a := (IntWalk.i64_in _ (by have := NK.out; omega)).trans ha.symm
        have ka2 : wrap64 (x + 1) = a := by have := NK.out; unfold wrap64; omega
        have h1 : decide (x < (cl.length : Int)) = true := decide_eq_true c1
        have p1 : (0 ≤ x) = True := eq_true p0
        have q1 : (x < (cl.length : Int)) = True := eq_true c1
        have hlit := HLIT.out _ hmem
        have hlen := HF.out.2 _ hmem
        generalize rd_L1 cl x = cc at hx1 hrc hstep hc0 hlit hlen
        obtain ⟨t, ht⟩ : ∃ t, t = toB (lineL cc) := ⟨_, rfl⟩
        have zt : t.size ≤ 30000000 := by rw [ht, toB_size]; exact lineL_short cc hlit hlen
        have zs : (sb.size : Int) ≤ 50 + x * 30000000 := by rw [HSB.out.1, toB_size]; exact HSB.out.2.2
        have HCL := Aside0.mk (rline_calls A0 c0 cc wr (Kd.C_below hrc HS.out.below) hc0 hlit hlen t ht)
        have f5 : ((9223372036854775807 : Nat) < sb.size + t.size) = False := eq_false (by have := NK.out; omega)
        have HA := Aside0.mk ha
        have HST := Aside0.mk hstep
        have HTT := Aside0.mk ht
        have HTL := Aside0.mk (show (lineL cc).length ≤ 30000000 from lineL_short cc hlit hlen)
        clear ha c1 hx0 p0 hmem hstep hrc hc0 hlit hlen zt zs ht
        go_wp2_with (go_at_call 70; refine HCL.out.mono ?_; rintro e w6 ⟨rfl, hd⟩; have HL6 := Aside0.mk (HS.out.later hd.below); clear hd)
        go_roundg d1
        case measure => omega
        case rel =>
          refine ⟨a, _, rfl, rfl, ⟨by have := HA.out; have := HX.out; omega, by have := HA.out; have := HX.out; omega⟩, HL6, s ++ lineL cc, ⟨?_, ?_, ?_⟩⟩
          · rw [HSB.out.1, HTT.out, toB_append]
          · rw [HSB.out.2.1, HA.out, HST.out, List.append_assoc]
          · have := HSB.out.2.2; have := HTL.out; have := HA.out
            simp only [List.length_append]
            omega
end Go.Proofs.YteaohgebocbehaaGreatDoor.Hand
end
section
/- The reference's Parse answers as the plain Parse of cnf. Condition: texts shorter than 2^29. -/
set_option linter.unusedVariables false
set_option linter.unusedSimpArgs false
namespace Go.Proofs.YteaohgebocbehaaGreatDoor.Plain
open Go.RowKit Go.Lib Go.Proofs.YteaohgebocbehaaGreatDoor.XA Go.Proofs.YteaohgebocbehaaGreatDoorW.PrintWords
theorem toB_toL (l : List UInt8) : (toB l).toList = l := by simp [toB, ByteArray.toList_eq]
def isDig (b : UInt8) : Bool := decide (48 ≤ b.toNat) && decide (b.toNat ≤ 57)
/-- At most d digits read. -/
def rd9 : Nat → Nat → List UInt8 → Nat × Nat
  | 0, acc, _ => (acc, 0)
  | _ + 1, acc, [] => (acc, 0)
  | d + 1, acc, b :: t => if isDig b then ((rd9 d (acc * 10 + (b.toNat - 48)) t).1, (rd9 d (acc * 10 + (b.toNat - 48)) t).2 + 1) else (acc, 0)
theorem bt_toB {l : List UInt8} {i : Int} {b : UInt8} {t : List UInt8} (h0 : 0 ≤ i) (h : l.drop i.toNat = b :: t) : bt (toB l) i = (b.toNat : Int) := by
  have hlt : i.toNat < l.length := by
    rcases Nat.lt_or_ge i.toNat l.length with h' | h'
    · exact h'
    · rw [List.drop_eq_nil_of_le h'] at h; cases h
  unfold bt
  rw [dif_pos (by rw [toB_size]; exact hlt)]
  have e : l[i.toNat] = b := by
    have := List.drop_eq_getElem_cons hlt
    rw [h] at this
    injection this with h1 _
    exact h1.symm
  rw [← e]
  rfl
theorem rd9_le : ∀ (d acc : Nat) (l : List UInt8), (rd9 d acc l).2 ≤ l.length ∧ (rd9 d acc l).2 ≤ d ∧ ((acc + 1) * 10 ^ d ≤ 1000000000 → (rd9 d acc l).1 < 1000000000)
  | 0, acc, l => by simp [rd9]; omega
  | d + 1, acc, [] => by
    refine ⟨by simp [rd9], by simp [rd9], fun h => ?_⟩
    simp only [rd9]
    have : 1 ≤ 10 ^ (d + 1) := Nat.pos_of_ne_zero (by simp)
    have := Nat.le_mul_of_pos_right (acc + 1) (show 0 < 10 ^ (d + 1) by omega)
    omega
  | d + 1, acc, b :: t => by
    simp only [rd9]
    split
    · rename_i hb
      obtain ⟨h1, h2, h3⟩ := rd9_le d (acc * 10 + (b.toNat - 48)) t
      refine ⟨by simp; omega, by simp; omega, fun h => h3 ?_⟩
      unfold isDig at hb
      simp only [Bool.and_eq_true, decide_eq_true_eq] at hb
      have e : (acc + 1) * 10 ^ (d + 1) = (acc * 10 + 10) * 10 ^ d := by rw [Nat.pow_succ, Nat.mul_comm (10 ^ d) 10, ← Nat.mul_assoc]; congr 1; omega
      rw [e] at h
      exact Nat.le_trans (Nat.mul_le_mul_right _ (by omega)) h
    · refine ⟨by simp, by simp, fun h => ?_⟩
      have := Nat.le_mul_of_pos_right (acc + 1) (show 0 < 10 ^ (d + 1) from Nat.pos_of_ne_zero (by simp))
      omega
theorem rd9_digits : ∀ (ds : List UInt8) (d acc u : Nat) (rest : List UInt8), (∀ b ∈ ds, 48 ≤ b.toNat ∧ b.toNat ≤ 57) → ds.length ≤ d → decFrom acc ds = some u → (ds.length = d ∨ rest = [] ∨ ∃ b t, rest = b :: t ∧ isDig b = false) → rd9 d acc (ds ++ rest) = (u, ds.length)
  | [], d, acc, u, rest, _, _, h, hr => by
    simp only [decFrom, Option.some.injEq] at h
    subst h
    rcases hr with h | h | ⟨b, t, h, hb⟩
    · simp only [List.length_nil] at h
      subst h
      simp [rd9]
    · subst h
      cases d <;> simp [rd9]
    · subst h
      cases d <;> simp [rd9, hb]
  | b :: t, d, acc, u, rest, hd, hl, h, hr => by
    obtain ⟨e, rfl⟩ : ∃ e, d = e + 1 := ⟨d - 1, by simp only [List.length_cons] at hl; omega⟩
    have hb := hd b List.mem_cons_self
    have hdv : digitVal b = some (b.toNat - 48) := by unfold digitVal; rw [if_pos hb]
    simp only [decFrom, hdv] at h
    have ih := rd9_digits t e (acc * 10 + (b.toNat - 48)) u rest (fun x hx => hd x (List.mem_cons_of_mem _ hx)) (by simp only [List.length_cons] at hl; omega) h (by
      rcases hr with h | h | h
      · left; simp only [List.length_cons] at h; omega
      · exact Or.inr (Or.inl h)
      · exact Or.inr (Or.inr h))
    have hdig : isDig b = true := by unfold isDig; simp [hb]
    simp only [List.cons_append, rd9, hdig, if_true, ih, List.length_cons]
/-- The integer at the front of a text, and its size; zeros if there is none. -/
def rint (s : List UInt8) : Int × Int :=
  if s.head? = some 45 then
    if (rd9 9 0 (s.drop 1)).2 = 0 then (0, 0)
    else if itoa (-((rd9 9 0 (s.drop 1)).1 : Int)) = s.take (1 + (rd9 9 0 (s.drop 1)).2) then (-((rd9 9 0 (s.drop 1)).1 : Int), ((1 + (rd9 9 0 (s.drop 1)).2 : Nat) : Int)) else (0, 0)
  else
    if (rd9 9 0 s).2 = 0 then (0, 0)
    else if itoa ((rd9 9 0 s).1 : Int) = s.take (rd9 9 0 s).2 then (((rd9 9 0 s).1 : Int), ((rd9 9 0 s).2 : Int)) else (0, 0)
theorem rint_j4 (s : List UInt8) (v : Int) (hv : v.natAbs ≤ 1000000000) (pos first : Int) (h0 : 0 ≤ pos) (h1 : pos ≤ s.length) : Ev (fun k => assessorref26_integer.j4 k (toB s) v pos first) (if pos = first then (0, 0) else if itoa v = s.take pos.toNat then (v, pos) else (0, 0)) := by
  by_cases hp : pos = first
  · rw [if_pos hp]
    exact Ev.step (f := fun _ => some (0, 0)) (fun k => by simp only [assessorref26_integer.j4]; rw [if_pos hp]) (Ev.now _)
  · rw [if_neg hp]
    refine Ev.step (f := fun k => (assessorref26_Decimal.f k v).bind fun t => if t.toList = s.take pos.toNat then some (v, pos) else some (0, 0)) (fun k => ?_) (Ev.bind (decimal_f _ v rfl (by omega)) ?_)
    · simp only [assessorref26_integer.j4]
      rw [if_neg hp]
      congr 1
      funext t
      rw [if_pos h0, if_pos (by rw [toB_size]; exact h1), toB_extract, List.drop_zero, toB_toL]
    · rw [toB_toL]
      by_cases e : itoa v = s.take pos.toNat
      · rw [if_pos e]; simp only [if_pos e]; exact Ev.now _
      · rw [if_neg e]; simp only [if_neg e]; exact Ev.now _
theorem rint_l0 (s : List UInt8) (hs : s.length ≤ 536870912) (first : Int) (hf : first = 0 ∨ first = 1) (R : Int × Int) : ∀ (d : Nat) (acc : Nat) (pos : Int), first ≤ pos → pos ≤ s.length → first + 9 - pos = d → (acc + 1) * 10 ^ d ≤ 1000000000 →
    Ev (fun k => assessorref26_integer.j3 k (toB s) ((rd9 d acc (s.drop pos.toNat)).1 : Int) (pos + ((rd9 d acc (s.drop pos.toNat)).2 : Int)) first false) R → Ev (fun k => assessorref26_integer.l0 k (toB s) (acc : Int) pos first) R := by
  have hwf : wrap64 (first + 9) = first + 9 := w64 (by omega) (by omega)
  intro d
  induction d with
  | zero =>
    intro acc pos h0 h1 hd hacc h
    simp only [rd9] at h
    refine Ev.step (fun k => ?_) h
    simp only [assessorref26_integer.l0]
    by_cases hp : pos < ((toB s).size : Int)
    · rw [if_pos hp, hwf, if_neg (by omega), show pos + ((0 : Nat) : Int) = pos by omega]
    · rw [if_neg hp, show pos + ((0 : Nat) : Int) = pos by omega]
  | succ d ih =>
    intro acc pos h0 h1 hd hacc h
    by_cases hp : pos < (s.length : Int)
    · have hlt : pos.toNat < s.length := by omega
      have hdr := List.drop_eq_getElem_cons hlt
      obtain ⟨b, hb⟩ : ∃ b, b = s[pos.toNat] := ⟨_, rfl⟩
      rw [← hb] at hdr
      have hbt := bt_toB (by omega) hdr
      rw [hdr] at h
      have hb256 : b.toNat < 256 := b.toNat_lt
      by_cases hdig : isDig b = true
      · have hdig' := hdig
        unfold isDig at hdig'
        simp only [Bool.and_eq_true, decide_eq_true_eq] at hdig'
        simp only [rd9, hdig, if_true] at h
        have hpow : 1 ≤ 10 ^ d := Nat.pos_of_ne_zero (by simp)
        have e : (acc + 1) * 10 ^ (d + 1) = (acc * 10 + 10) * 10 ^ d := by rw [Nat.pow_succ, Nat.mul_comm (10 ^ d) 10, ← Nat.mul_assoc]; congr 1; omega
        rw [e] at hacc
        have hacc2 : acc * 10 + 10 ≤ 1000000000 := Nat.le_trans (Nat.le_mul_of_pos_right _ (by omega)) hacc
        have ih' := ih (acc * 10 + (b.toNat - 48)) (pos + 1) (by omega) (by omega) (by omega) (Nat.le_trans (Nat.mul_le_mul_right _ (by omega)) hacc)
        rw [show (pos + 1).toNat = pos.toNat + 1 by omega] at ih'
        have h2 := ih' (by
          rw [show pos + 1 + ((rd9 d (acc * 10 + (b.toNat - 48)) (s.drop (pos.toNat + 1))).2 : Int) = pos + (((rd9 d (acc * 10 + (b.toNat - 48)) (s.drop (pos.toNat + 1))).2 + 1 : Nat) : Int) by omega]
          exact h)
        refine Ev.step (f := fun k => assessorref26_integer.j3 k (toB s) (acc : Int) pos first true) (fun k => ?_) (Ev.step (fun k => ?_) h2)
        · simp only [assessorref26_integer.l0]
          rw [if_pos (by rw [toB_size]; exact hp), hwf, if_pos (by omega), if_pos (by omega), hbt, if_pos (by omega), decide_eq_true (by omega)]
        · simp only [assessorref26_integer.j3]
          rw [if_pos trivial, if_pos (by omega), if_pos (by rw [toB_size]; exact hp), hbt]
          have e1 : wrap64 (10 * (acc : Int)) = 10 * (acc : Int) := w64 (by omega) (by omega)
          have e2 : ((b.toNat : Int) - 48) % 256 = ((b.toNat - 48 : Nat) : Int) := by omega
          rw [e1, e2, w64 (by omega) (by omega), w64 (x := pos + 1) (by omega) (by omega)]
          congr 1
          omega
      · have hno : isDig b = false := by simpa using hdig
        simp only [rd9, hno, Bool.false_eq_true, if_false] at h
        rw [show pos + ((0 : Nat) : Int) = pos by omega] at h
        refine Ev.step (fun k => ?_) h
        simp only [assessorref26_integer.l0]
        rw [if_pos (by rw [toB_size]; exact hp), hwf, if_pos (by omega), if_pos (by omega), hbt]
        by_cases h48 : (b.toNat : Int) ≥ 48
        · rw [if_pos h48, decide_eq_false (fun h57 => by
            unfold isDig at hno
            rw [decide_eq_true (by omega), decide_eq_true (by omega)] at hno
            cases hno)]
        · rw [if_neg h48]
    · rw [List.drop_eq_nil_of_le (by omega)] at h
      simp only [rd9] at h
      rw [show pos + ((0 : Nat) : Int) = pos by omega] at h
      refine Ev.step (fun k => ?_) h
      simp only [assessorref26_integer.l0]
      rw [if_neg (by rw [toB_size]; exact hp)]
theorem rint_f (s : List UInt8) (hs : s.length ≤ 536870912) : Ev (fun k => assessorref26_integer.f k (toB s)) (rint s) := by
  have main : ∀ (first : Int) (hf : first = 0 ∨ first = 1) (hle : first ≤ s.length), Ev (fun k => assessorref26_integer.l0 k (toB s) 0 first first) (if first + ((rd9 9 0 (s.drop first.toNat)).2 : Int) = first then (0, 0) else if itoa (if first = 1 then -((rd9 9 0 (s.drop first.toNat)).1 : Int) else ((rd9 9 0 (s.drop first.toNat)).1 : Int)) = s.take (first + ((rd9 9 0 (s.drop first.toNat)).2 : Int)).toNat then ((if first = 1 then -((rd9 9 0 (s.drop first.toNat)).1 : Int) else ((rd9 9 0 (s.drop first.toNat)).1 : Int)), first + ((rd9 9 0 (s.drop first.toNat)).2 : Int)) else (0, 0)) := fun first hf hle => by
    obtain ⟨l1, l2, l3⟩ := rd9_le 9 0 (s.drop first.toNat)
    have hb := l3 (by decide)
    have hlen : (rd9 9 0 (s.drop first.toNat)).2 ≤ s.length - first.toNat := by rw [List.length_drop] at l1; exact l1
    obtain ⟨a, ha⟩ : ∃ a, a = (rd9 9 0 (s.drop first.toNat)).1 := ⟨_, rfl⟩
    obtain ⟨z, hz⟩ : ∃ z, z = (rd9 9 0 (s.drop first.toNat)).2 := ⟨_, rfl⟩
    rw [← ha, ← hz]
    rw [← ha] at hb
    rw [← hz] at hlen
    refine rint_l0 s hs first hf _ 9 0 first (by omega) hle (by omega) (by decide) ?_
    rw [← ha, ← hz]
    have h4 := rint_j4 s (if first = 1 then -(a : Int) else (a : Int)) (by split <;> omega) (first + (z : Int)) first (by omega) (by omega)
    refine Ev.step (fun k => ?_) h4
    simp only [assessorref26_integer.j3, Bool.false_eq_true, if_false]
    by_cases h1 : first = 1
    · rw [if_pos h1, if_pos h1, w64 (by omega) (by omega)]
    · rw [if_neg h1, if_neg h1]
  unfold rint
  by_cases hh : s.head? = some 45
  · rw [if_pos hh]
    obtain ⟨t, rfl⟩ : ∃ t, s = 45 :: t := by
      cases s with
      | nil => cases hh
      | cons b t => simp only [List.head?_cons, Option.some.injEq] at hh; exact ⟨t, by rw [hh]⟩
    have h := main 1 (Or.inr rfl) (by simp only [List.length_cons]; omega)
    simp only [show (1 : Int).toNat = 1 from rfl, if_true] at h
    have hbt : bt (toB (45 :: t)) 0 = 45 := bt_toB (l := 45 :: t) (i := 0) (by omega) rfl
    refine Ev.congr (f := fun k => assessorref26_integer.j0 k (toB (45 :: t)) 0 0 true) (fun k => ?_) (Ev.step (f := fun k => assessorref26_integer.j1 k (toB (45 :: t)) 0 1) (fun k => by simp only [assessorref26_integer.j0]; rfl) (Ev.step (fun k => by simp only [assessorref26_integer.j1]; rfl) ?_))
    · unfold assessorref26_integer.f
      rw [if_pos (by rw [toB_size]; simp only [List.length_cons]; omega), hbt]
      rfl
    · generalize (rd9 9 0 (List.drop 1 (45 :: t))).1 = a at h ⊢
      generalize (rd9 9 0 (List.drop 1 (45 :: t))).2 = z at h ⊢
      by_cases hz : z = 0
      · rw [if_pos hz]
        rw [if_pos (by omega)] at h
        exact h
      · rw [if_neg hz]
        rw [if_neg (by omega), show (1 + (z : Int)).toNat = 1 + z by omega, show (1 : Int) + (z : Int) = ((1 + z : Nat) : Int) by omega] at h
        exact h
  · rw [if_neg hh]
    have h := main 0 (Or.inl rfl) (by omega)
    simp only [show (0 : Int).toNat = 0 from rfl, List.drop_zero] at h
    refine Ev.congr (f := fun k => assessorref26_integer.j0 k (toB s) 0 0 false) (fun k => ?_) (Ev.step (f := fun k => assessorref26_integer.j1 k (toB s) 0 0) (fun k => by simp only [assessorref26_integer.j0]; rfl) (Ev.step (fun k => by simp only [assessorref26_integer.j1]; rfl) ?_))
    · unfold assessorref26_integer.f
      by_cases h0 : 0 < ((toB s).size : Int)
      · rw [if_pos h0]
        cases s with
        | nil => rw [toB_size] at h0; simp at h0
        | cons b t =>
          have hbt : bt (toB (b :: t)) 0 = (b.toNat : Int) := bt_toB (l := b :: t) (i := 0) (by omega) rfl
          rw [hbt]
          congr 1
          simp only [List.head?_cons, Option.some.injEq] at hh
          simp only [beq_eq_false_iff_ne, ne_eq]
          intro e
          apply hh
          have : b.toNat = 45 := by omega
          exact UInt8.toNat_inj.1 this
      · rw [if_neg h0]
    · generalize (rd9 9 0 s).1 = a at h ⊢
      generalize (rd9 9 0 s).2 = z at h ⊢
      rw [if_neg (show ¬ (0 : Int) = 1 by decide)] at h
      by_cases hz : z = 0
      · rw [if_pos hz]
        rw [if_pos (by omega)] at h
        exact h
      · rw [if_neg hz]
        rw [if_neg (by omega), show (0 + (z : Int)).toNat = z by omega, show (0 : Int) + (z : Int) = (z : Int) by omega] at h
        exact h
theorem rint_good {s : List UInt8} {v z : Int} (h : rint s = (v, z)) (hz : z ≠ 0) : 0 < z ∧ z ≤ s.length ∧ s.take z.toNat = itoa v ∧ v.natAbs ≤ 1000000000 := by
  unfold rint at h
  split at h
  · rename_i hh
    obtain ⟨l1, l2, l3⟩ := rd9_le 9 0 (s.drop 1)
    have hb := l3 (by decide)
    have hlen : (s.drop 1).length = s.length - 1 := List.length_drop
    have hs : s.length ≠ 0 := fun e => by rw [List.eq_nil_of_length_eq_zero e] at hh; cases hh
    split at h
    · simp only [Prod.mk.injEq] at h; omega
    · split at h
      · rename_i he
        simp only [Prod.mk.injEq] at h
        obtain ⟨rfl, rfl⟩ := h
        exact ⟨by omega, by omega, by rw [Int.toNat_natCast]; exact he.symm, by omega⟩
      · simp only [Prod.mk.injEq] at h; omega
  · obtain ⟨l1, l2, l3⟩ := rd9_le 9 0 s
    have hb := l3 (by decide)
    split at h
    · simp only [Prod.mk.injEq] at h; omega
    · split at h
      · rename_i he
        simp only [Prod.mk.injEq] at h
        obtain ⟨rfl, rfl⟩ := h
        exact ⟨by omega, by omega, by rw [Int.toNat_natCast]; exact he.symm, by omega⟩
      · simp only [Prod.mk.injEq] at h; omega
theorem dec_len9 {u : Nat} (h : u < 1000000000) : (decDigits u).length ≤ 9 := by
  have h1 := nDigits_le 8 u h
  have h2 := decDigits_length u
  omega
theorem dec_pos (u : Nat) : 0 < (decDigits u).length := by
  have := dec_ne u
  cases h : decDigits u with
  | nil => exact absurd h this
  | cons a t => simp
/-- An integer's text is read back. -/
theorem rint_itoa (n : Int) (rest : List UInt8) (hn : n.natAbs < 1000000000) (hr : rest = [] ∨ ∃ b t, rest = b :: t ∧ isDig b = false) : rint (itoa n ++ rest) = (n, ((itoa n).length : Int)) := by
  have hlen := dec_len9 hn
  have hpos := dec_pos n.natAbs
  have hrd : rd9 9 0 (decDigits n.natAbs ++ rest) = (n.natAbs, (decDigits n.natAbs).length) := rd9_digits _ 9 0 _ rest (dec_bytes _) hlen (dec_round _) (Or.inr hr)
  unfold rint
  by_cases h : n < 0
  · have e : itoa n = 45 :: decDigits n.natAbs := itoa_neg h
    have e2 : (-((n.natAbs : Nat) : Int)) = n := by omega
    rw [e]
    simp only [List.cons_append, List.head?_cons, if_true, List.drop_succ_cons, List.drop_zero, hrd]
    rw [if_neg (by omega), e2, e, if_pos (by rw [show 1 + (decDigits n.natAbs).length = (decDigits n.natAbs).length + 1 by omega, List.take_succ_cons, List.take_left'] <;> rfl)]
    simp only [List.length_cons]
    congr 1
    omega
  · have e : itoa n = decDigits n.natAbs := itoa_nat h
    have e2 : ((n.natAbs : Nat) : Int) = n := by omega
    rw [e]
    have hh : ¬ (decDigits n.natAbs ++ rest).head? = some 45 := fun he => by
      cases hd : decDigits n.natAbs with
      | nil => exact dec_ne _ hd
      | cons b t =>
        rw [hd] at he
        simp only [List.cons_append, List.head?_cons, Option.some.injEq] at he
        have := dec_bytes n.natAbs b (by rw [hd]; exact List.mem_cons_self)
        rw [he] at this
        revert this
        decide
    rw [if_neg hh, hrd]
    simp only
    rw [if_neg (by omega), e2, e, if_pos (by rw [List.take_left'] ; rfl)]
theorem itoa_zero : itoa 0 = [48] := by rw [itoa_nat (by decide), dec_small (by decide)]; rfl
/-- What a turn does with the number it has read. -/
def stepR (s : List UInt8) (out : List Int) (pos : Nat) (k : Nat) (b : Int × Int) : Option (List Int × Int) := if b.2 = 0 then some (([] : List Int), (0 : Int)) else (if b.1 = 0 then (if (wrap64 ((pos : Int) + b.2)) < ((toB s).size : Int) then (if 0 ≤ (wrap64 ((pos : Int) + b.2)) then (if (bt (toB s) (wrap64 ((pos : Int) + b.2))) = 10 then (some (out, wrap64 ((wrap64 ((pos : Int) + b.2)) + 1))) else (some (([] : List Int), 0))) else (none)) else (some (([] : List Int), 0))) else (if (wrap64 ((pos : Int) + b.2)) ≥ ((toB s).size : Int) then (some (([] : List Int), 0)) else (if 0 ≤ (wrap64 ((pos : Int) + b.2)) then (if (wrap64 ((pos : Int) + b.2)) < ((toB s).size : Int) then (if (bt (toB s) (wrap64 ((pos : Int) + b.2))) = 32 then (if out.length < 17592186044416 then (assessorref26_ReadLine.l0 k (toB s) (out ++ [b.1]) (wrap64 ((wrap64 ((pos : Int) + b.2)) + 1))) else (none)) else (some (([] : List Int), 0))) else (none)) else (none))))
/-- A line's literals and end. -/
theorem readline_l0 (s : List UInt8) (hs : s.length ≤ 536870912) : ∀ (m : Nat) (pos : Nat) (out : List Int), s.length - pos = m → pos ≤ s.length → s.take pos = litsL out → out.length ≤ pos →
    ∃ r : List Int × Int, Ev (fun k => assessorref26_ReadLine.l0 k (toB s) out (pos : Int)) r ∧ (r = ([], 0) ∨ 0 < r.2 ∧ r.2 ≤ s.length ∧ s.take r.2.toNat = lineL r.1) ∧
      (∀ c' rest, s.drop pos = litsL c' ++ ([48, 10] ++ rest) → (∀ x ∈ c', x ≠ 0 ∧ x.natAbs < 1000000000) → r = (out ++ c', ((pos + (litsL c').length + 2 : Nat) : Int))) := by
  intro m
  induction m using Nat.strongRecOn with
  | _ m ih =>
    intro pos out hm hpos htk ho
    by_cases hlt : pos < s.length
    · have hex : (toB s).extract pos (toB s).size = toB (s.drop pos) := by rw [toB_size, toB_extract, List.take_of_length_le (Nat.le_refl _)]
      have hri := rint_f (s.drop pos) (by rw [List.length_drop]; omega)
      obtain ⟨v, z, hvz⟩ : ∃ v z, rint (s.drop pos) = (v, z) := ⟨_, _, rfl⟩
      rw [hvz] at hri
      have start : ∀ R : List Int × Int, Ev (fun k => stepR s out pos k (v, z)) R → Ev (fun k => assessorref26_ReadLine.l0 k (toB s) out (pos : Int)) R := fun R hR => by
        refine Ev.step (f := fun k => (assessorref26_integer.f k (toB (s.drop pos))).bind (stepR s out pos k)) (fun k => ?_) (Ev.bind hri hR)
        simp only [assessorref26_ReadLine.l0, stepR]
        rw [if_pos (by rw [toB_size]; omega), if_pos (by omega), if_pos (by rw [toB_size]; omega), Int.toNat_natCast, hex]
        rfl
      -- what the front of the rest says when a line stands there
      have front : ∀ c' rest, s.drop pos = litsL c' ++ ([48, 10] ++ rest) → (∀ x ∈ c', x ≠ 0 ∧ x.natAbs < 1000000000) → (c' = [] ∧ v = 0 ∧ z = 1 ∧ s.drop pos = 48 :: 10 :: rest) ∨ (∃ x t, c' = x :: t ∧ v = x ∧ z = ((itoa x).length : Int) ∧ s.drop pos = itoa x ++ 32 :: (litsL t ++ ([48, 10] ++ rest))) := fun c' rest he hc => by
        cases c' with
        | nil =>
          left
          have e : s.drop pos = itoa 0 ++ (10 :: rest) := by rw [he, itoa_zero]; rfl
          rw [e, rint_itoa 0 (10 :: rest) (by decide) (Or.inr ⟨10, rest, rfl, by decide⟩)] at hvz
          simp only [Prod.mk.injEq] at hvz
          exact ⟨rfl, hvz.1.symm, by rw [← hvz.2, itoa_zero]; rfl, by rw [he]; rfl⟩
        | cons x t =>
          right
          have hx := hc x List.mem_cons_self
          have e : s.drop pos = itoa x ++ (32 :: (litsL t ++ ([48, 10] ++ rest))) := by rw [he]; simp [litsL]
          rw [e, rint_itoa x _ hx.2 (Or.inr ⟨32, _, rfl, by decide⟩)] at hvz
          simp only [Prod.mk.injEq] at hvz
          exact ⟨x, t, rfl, hvz.1.symm, hvz.2.symm, e⟩
      by_cases hz : z = 0
      · refine ⟨([], 0), start _ (Ev.congr (f := fun _ => some ([], 0)) (fun k => by simp only [stepR]; rw [if_pos hz]) (Ev.now _)), Or.inl rfl, fun c' rest he hc => ?_⟩
        rcases front c' rest he hc with ⟨_, _, h, _⟩ | ⟨x, t, _, _, h, _⟩
        · omega
        · exfalso
          have := dec_pos x.natAbs
          have h2 : 0 < (itoa x).length := by
            by_cases hx : x < 0
            · rw [itoa_neg hx]; simp
            · rw [itoa_nat hx]; exact this
          omega
      · obtain ⟨g1, g2, g3, g4⟩ := rint_good hvz hz
        rw [List.length_drop] at g2
        have hw1 : wrap64 ((pos : Int) + z) = (pos : Int) + z := w64 (by omega) (by omega)
        have hw2 : wrap64 ((pos : Int) + z + 1) = (pos : Int) + z + 1 := w64 (by omega) (by omega)
        obtain ⟨p, hp⟩ : ∃ p : Nat, (p : Int) = (pos : Int) + z := ⟨pos + z.toNat, by omega⟩
        have htk2 : s.take p = litsL out ++ itoa v := by
          rw [show p = pos + z.toNat by omega, List.take_add, htk, g3]
        by_cases hend : p < s.length
        · obtain ⟨b, hb⟩ : ∃ b, b = s[p] := ⟨_, rfl⟩
          have hdr : s.drop p = b :: s.drop (p + 1) := by rw [hb]; exact List.drop_eq_getElem_cons hend
          have hbt : bt (toB s) (p : Int) = (b.toNat : Int) := bt_toB (by omega) (by rw [Int.toNat_natCast]; exact hdr)
          have hdp : ∀ x tail, s.drop pos = itoa x ++ tail → z = ((itoa x).length : Int) → s.drop p = tail := fun x tail he hze => by
            rw [show p = pos + (itoa x).length by omega, ← List.drop_drop, he, List.drop_left]
          by_cases hv : v = 0
          · by_cases hb10 : b = 10
            · have htk3 : s.take (p + 1) = lineL out := by
                rw [List.take_add_one, List.getElem?_eq_getElem hend, ← hb, htk2, hb10, hv, lineL_lits, itoa_zero]
                simp
              refine ⟨(out, ((p + 1 : Nat) : Int)), start _ (Ev.congr (f := fun _ => some (out, ((p + 1 : Nat) : Int))) (fun k => ?_) (Ev.now _)), Or.inr ⟨by omega, by omega, by rw [Int.toNat_natCast]; exact htk3⟩, fun c' rest he hc => ?_⟩
              · simp only [stepR]; rw [if_neg hz, if_pos hv, hw1, ← hp, if_pos (by rw [toB_size]; omega), if_pos (by omega), hbt, hb10, if_pos (by decide)]
                congr 2
                rw [hp, hw2]
                omega
              · rcases front c' rest he hc with ⟨h1, _, h3, _⟩ | ⟨x, t, h1, h2, h3, h4⟩
                · subst h1
                  simp only [List.append_nil, litsL, List.flatMap_nil, List.length_nil]
                  congr 1
                  omega
                · have := (hc x (by rw [h1]; exact List.mem_cons_self)).1
                  omega
            · refine ⟨([], 0), start _ (Ev.congr (f := fun _ => some ([], 0)) (fun k => ?_) (Ev.now _)), Or.inl rfl, fun c' rest he hc => ?_⟩
              · simp only [stepR]; rw [if_neg hz, if_pos hv, hw1, ← hp, if_pos (by rw [toB_size]; omega), if_pos (by omega), hbt, if_neg (fun e => hb10 (UInt8.toNat_inj.1 (by show b.toNat = 10; omega)))]
              · rcases front c' rest he hc with ⟨h1, _, h3, h4⟩ | ⟨x, t, h1, h2, h3, h4⟩
                · exfalso
                  have := hdp 0 (10 :: rest) (by rw [h4, itoa_zero]; rfl) (by rw [h3, itoa_zero]; rfl)
                  rw [hdr] at this
                  injection this with e _
                  exact hb10 e
                · have := (hc x (by rw [h1]; exact List.mem_cons_self)).1
                  omega
          · by_cases hb32 : b = 32
            · have htk3 : s.take (p + 1) = litsL (out ++ [v]) := by
                rw [List.take_add_one, List.getElem?_eq_getElem hend, ← hb, htk2, hb32, litsL_snoc]
                simp
              obtain ⟨r, hr, hg, hx⟩ := ih (s.length - (p + 1)) (by omega) (p + 1) (out ++ [v]) rfl (by omega) htk3 (by simp; omega)
              refine ⟨r, start _ (Ev.congr (fun k => ?_) hr), hg, fun c' rest he hc => ?_⟩
              · simp only [stepR]; rw [if_neg hz, if_neg hv, hw1, ← hp, if_neg (by rw [toB_size]; omega), if_pos (by omega), if_pos (by rw [toB_size]; omega), hbt, hb32, if_pos (by decide), if_pos (by omega)]
                congr 1
                rw [hp, hw2]
                omega
              · rcases front c' rest he hc with ⟨h1, h2, h3, _⟩ | ⟨x, t, h1, h2, h3, h4⟩
                · exact absurd h2 hv
                · have h5 := hdp x _ h4 h3
                  rw [hdr] at h5
                  injection h5 with _ h6
                  have := hx t rest h6 (fun y hy => hc y (by rw [h1]; exact List.mem_cons_of_mem _ hy))
                  rw [this, h1, h2]
                  have e : litsL (x :: t) = itoa x ++ [32] ++ litsL t := by simp [litsL]
                  rw [e]
                  simp only [List.append_assoc, List.cons_append, List.nil_append, List.length_append, List.length_cons]
                  congr 1
                  omega
            · refine ⟨([], 0), start _ (Ev.congr (f := fun _ => some ([], 0)) (fun k => ?_) (Ev.now _)), Or.inl rfl, fun c' rest he hc => ?_⟩
              · simp only [stepR]; rw [if_neg hz, if_neg hv, hw1, ← hp, if_neg (by rw [toB_size]; omega), if_pos (by omega), if_pos (by rw [toB_size]; omega), hbt, if_neg (fun e => hb32 (UInt8.toNat_inj.1 (by show b.toNat = 32; omega)))]
              · rcases front c' rest he hc with ⟨h1, h2, h3, _⟩ | ⟨x, t, h1, h2, h3, h4⟩
                · exact absurd h2 hv
                · exfalso
                  have h5 := hdp x _ h4 h3
                  rw [hdr] at h5
                  injection h5 with e _
                  exact hb32 e
        · refine ⟨([], 0), start _ (Ev.congr (f := fun _ => some ([], 0)) (fun k => ?_) (Ev.now _)), Or.inl rfl, fun c' rest he hc => ?_⟩
          · simp only [stepR]; rw [if_neg hz]
            by_cases hv : v = 0
            · rw [if_pos hv, hw1, if_neg (by rw [toB_size]; omega)]
            · rw [if_neg hv, hw1, if_pos (by rw [toB_size]; omega)]
          · exfalso
            rcases front c' rest he hc with ⟨_, _, h3, h4⟩ | ⟨x, t, _, _, h3, h4⟩
            · have : (s.drop pos).length = (48 :: 10 :: rest).length := by rw [h4]
              rw [List.length_drop] at this
              simp only [List.length_cons] at this
              omega
            · have : (s.drop pos).length = (itoa x ++ 32 :: (litsL t ++ ([48, 10] ++ rest))).length := by rw [h4]
              rw [List.length_drop, List.length_append, List.length_cons] at this
              omega
    · refine ⟨([], 0), Ev.step (f := fun _ => some ([], 0)) (fun k => by simp only [assessorref26_ReadLine.l0]; rw [if_neg (by rw [toB_size]; omega)]) (Ev.now _), Or.inl rfl, fun c' rest he _ => ?_⟩
      rw [List.drop_eq_nil_of_le (by omega)] at he
      have : (0 : Nat) = (litsL c' ++ ([48, 10] ++ rest)).length := by rw [← he]; rfl
      simp only [List.length_append, List.length_cons] at this
      omega
theorem litsL_cons (x : Int) (t : List Int) : litsL (x :: t) = itoa x ++ [32] ++ litsL t := by simp [litsL]
theorem itoa_pos (x : Int) : 0 < (itoa x).length := by
  have := dec_pos x.natAbs
  by_cases hx : x < 0
  · rw [itoa_neg hx]; simp
  · rw [itoa_nat hx]; exact this
theorem litsL_ge : ∀ c : List Int, c.length ≤ (litsL c).length
  | [] => Nat.zero_le _
  | x :: t => by
    have := litsL_ge t
    rw [litsL_cons]
    simp only [List.length_append, List.length_cons, List.length_nil]
    omega
theorem readline_f (s : List UInt8) (hs : s.length ≤ 536870912) :
    ∃ r : List Int × Int, Ev (fun k => assessorref26_ReadLine.f k (toB s)) r ∧ (r = ([], 0) ∨ 0 < r.2 ∧ r.2 ≤ s.length ∧ s.take r.2.toNat = lineL r.1) ∧
      (∀ c rest, s = lineL c ++ rest → (∀ x ∈ c, x ≠ 0 ∧ x.natAbs < 1000000000) → r = (c, (((lineL c).length : Nat) : Int))) := by
  obtain ⟨r, h1, h2, h3⟩ := readline_l0 s hs s.length 0 [] rfl (Nat.zero_le _) rfl (Nat.zero_le _)
  refine ⟨r, h1, h2, fun c rest he hc => ?_⟩
  have := h3 c rest (by rw [he, lineL_lits, List.drop_zero]; simp) hc
  rw [this, lineL_lits]
  simp
theorem lineL_ge (c : List Int) : c.length ≤ (lineL c).length := by
  have := litsL_ge c
  rw [lineL_lits, List.length_append]
  omega
abbrev PR := Int × (List (List Int)) × Int
def noP : PR := (0, [], 3)
theorem parse_l0 (n : Int) (want : Int) : ∀ (len : Nat) (s : List UInt8) (done : List (List Int)), s.length = len → s.length + done.length ≤ 536870912 → (∀ c ∈ done, c.length ≤ 536870912) →
    ∃ r : PR, Ev (fun k => assessorref26_Parse.l0 k (toB s) want n done) r ∧ (r = noP ∨ ∃ cl, r = (n, done ++ cl, 0) ∧ s = cl.flatMap lineL ∧ ((done ++ cl).length : Int) = want ∧ validC n (done ++ cl) = true) ∧
      (∀ cl, s = cl.flatMap lineL → (∀ c ∈ cl, ∀ x ∈ c, x ≠ 0 ∧ x.natAbs < 1000000000) → ((done ++ cl).length : Int) = want → validC n (done ++ cl) = true → r = (n, done ++ cl, 0)) := by
  intro len
  induction len using Nat.strongRecOn with
  | _ len ih =>
    intro s done hlen hsz hd
    cases hse : s with
    | nil =>
      subst hse
      have hnil : ∀ cl : List (List Int), [] = cl.flatMap lineL → cl = [] := fun cl h => by
        cases cl with
        | nil => rfl
        | cons c t => rw [List.flatMap_cons, lineL_lits] at h; simp at h
      have hem : (toB []).toList = ([] : List UInt8) := toB_toL []
      by_cases hw : (done.length : Int) = want
      · have hv := rvalid_f n done (fun c h => by have := hd c h; omega) (by omega)
        cases hvc : validC n done with
        | false =>
          rw [hvc] at hv
          refine ⟨noP, Ev.step (f := fun k => (assessorref26_Valid.f k n done).bind fun t344 => if t344 = true then some (n, done, 0) else some (0, ([] : List (List Int)), 3)) (fun k => by simp only [assessorref26_Parse.l0]; rw [if_pos hem, if_pos hw]) (Ev.bind hv (Ev.congr (f := fun _ => some noP) (fun k => by rw [if_neg (by simp)]; rfl) (Ev.now _))), Or.inl rfl, fun cl he _ _ hv' => ?_⟩
          rw [hnil cl he, List.append_nil, hvc] at hv'
          exact absurd hv' (by simp)
        | true =>
          rw [hvc] at hv
          refine ⟨(n, done, 0), Ev.step (f := fun k => (assessorref26_Valid.f k n done).bind fun t344 => if t344 = true then some (n, done, 0) else some (0, ([] : List (List Int)), 3)) (fun k => by simp only [assessorref26_Parse.l0]; rw [if_pos hem, if_pos hw]) (Ev.bind hv (Ev.congr (f := fun _ => some (n, done, 0)) (fun k => by rw [if_pos rfl]) (Ev.now _))), Or.inr ⟨[], by simp, rfl, by simpa using hw, by simpa using hvc⟩, fun cl he _ _ _ => ?_⟩
          rw [hnil cl he, List.append_nil]
      · refine ⟨noP, Ev.step (f := fun _ => some noP) (fun k => by simp only [assessorref26_Parse.l0]; rw [if_pos hem, if_neg hw]; rfl) (Ev.now _), Or.inl rfl, fun cl he _ h _ => ?_⟩
        rw [hnil cl he, List.append_nil] at h
        exact absurd h hw
    | cons b0 t0 =>
      rw [← hse]
      have hne : ¬ (toB s).toList = ([] : List UInt8) := by rw [toB_toL, hse]; simp
      obtain ⟨⟨c, z⟩, hr, hgood, hex⟩ := readline_f s (by omega)
      simp only at hgood hex
      have start : ∀ R : PR, Ev (fun k => if z = 0 then some (0, ([] : List (List Int)), 3) else (if done.length < 5864062014805 then (if 0 ≤ z then (if z ≤ ((toB s).size : Int) then (assessorref26_Parse.l0 k ((toB s).extract (z : Int).toNat (toB s).size) want n (done ++ [c])) else none) else none) else none)) R → Ev (fun k => assessorref26_Parse.l0 k (toB s) want n done) R := fun R hR => by
        refine Ev.step (f := fun k => (assessorref26_ReadLine.f k (toB s)).bind fun bt337 => if bt337.2 = 0 then some (0, ([] : List (List Int)), 3) else (if done.length < 5864062014805 then (if 0 ≤ bt337.2 then (if bt337.2 ≤ ((toB s).size : Int) then (assessorref26_Parse.l0 k ((toB s).extract (bt337.2 : Int).toNat (toB s).size) want n (done ++ [bt337.1])) else none) else none) else none)) (fun k => ?_) (Ev.bind hr hR)
        simp only [assessorref26_Parse.l0]
        rw [if_neg hne]
      by_cases hz : z = 0
      · refine ⟨noP, start _ (Ev.congr (f := fun _ => some noP) (fun k => by rw [if_pos hz]; rfl) (Ev.now _)), Or.inl rfl, fun cl he hc _ _ => ?_⟩
        exfalso
        cases cl with
        | nil => rw [he] at hse; simp at hse
        | cons d t =>
          rw [List.flatMap_cons] at he
          have := hex d _ he (hc d List.mem_cons_self)
          simp only [Prod.mk.injEq] at this
          have h2 : 0 < (lineL d).length := by rw [lineL_lits]; simp
          omega
      · obtain ⟨g1, g2, g3⟩ := hgood.resolve_left (fun e => hz (congrArg Prod.snd e))
        have hcl : c.length ≤ s.length := by
          have h1 := lineL_ge c
          have h2 : (s.take z.toNat).length ≤ s.length := by rw [List.length_take]; omega
          rw [g3] at h2
          omega
        have hsplit : s = lineL c ++ s.drop z.toNat := by rw [← g3, List.take_append_drop]
        obtain ⟨r, hr2, hg2, hx2⟩ := ih (s.drop z.toNat).length (by rw [List.length_drop]; omega) (s.drop z.toNat) (done ++ [c]) rfl (by rw [List.length_drop]; simp; omega) (fun e he => by
          rcases List.mem_append.1 he with he | he
          · exact hd e he
          · rw [List.mem_singleton.1 he]; omega)
        refine ⟨r, start _ (Ev.congr (fun k => ?_) hr2), ?_, fun cl he hc hw hv => ?_⟩
        · rw [if_neg hz, if_pos (by omega), if_pos (by omega), if_pos (by rw [toB_size]; omega), toB_size, toB_extract, List.take_of_length_le (Nat.le_refl _)]
        · rcases hg2 with h | ⟨cl, h1, h2, h3, h4⟩
          · exact Or.inl h
          · refine Or.inr ⟨c :: cl, ?_, ?_, ?_, ?_⟩
            · rw [h1, List.append_assoc]; rfl
            · rw [List.flatMap_cons, ← h2]; exact hsplit
            · rw [List.append_assoc] at h3; exact h3
            · rw [List.append_assoc] at h4; exact h4
        · cases cl with
          | nil => rw [he] at hse; simp at hse
          | cons d t =>
            have he' := he
            rw [List.flatMap_cons] at he
            have h1 := hex d _ he (hc d List.mem_cons_self)
            simp only [Prod.mk.injEq] at h1
            obtain ⟨h1, h2⟩ := h1
            subst h1
            have h3 : s.drop z.toNat = t.flatMap lineL := by
              rw [he, h2, Int.toNat_natCast, List.drop_left]
            have h4 := hx2 t h3 (fun e h => hc e (List.mem_cons_of_mem _ h)) (by rw [List.append_assoc]; exact hw) (by rw [List.append_assoc]; exact hv)
            rw [h4, List.append_assoc]
            rfl
theorem parse_empty (h : (parseC []).2.2 = 0) : False := by
  unfold parseC at h
  cases hr : PP.run ⟨true, 0, []⟩ (linesOf []) with
  | none => rw [hr] at h; exact absurd h (by decide)
  | some s => rw [hr] at h; simp only at h; rw [if_pos (Or.inl trivial)] at h; exact absurd h (by decide)
/-- An answer is right for a text. -/
def Acc (s : List UInt8) (r : PR) : Prop := (r = noP ∨ ∃ n cl, r = (n, cl, 0) ∧ s = fmtL n cl ∧ validC n cl = true) ∧ (∀ n cl, s = fmtL n cl → validC n cl = true → r = (n, cl, 0))
theorem acc_bad {s : List UInt8} (h : ∀ n cl, s = fmtL n cl → validC n cl = true → False) : Acc s noP := ⟨Or.inl rfl, fun n cl h1 h2 => (h n cl h1 h2).elim⟩
theorem fmtL_eq (n : Int) (cl : List (List Int)) : fmtL n cl = [112, 32, 99, 110, 102, 32] ++ (itoa n ++ 32 :: (itoa (cl.length : Int) ++ 10 :: cl.flatMap lineL)) := by
  unfold fmtL headL
  simp
theorem valid_lits {n : Int} {cl : List (List Int)} (h : validC n cl = true) : n.natAbs < 1000000000 ∧ cl.length < 1000000000 ∧ ∀ c ∈ cl, ∀ x ∈ c, x ≠ 0 ∧ x.natAbs < 1000000000 := by
  obtain ⟨⟨h0, h1, h2⟩, h3⟩ := (validC_iff n cl).1 h
  refine ⟨by omega, by omega, fun c hc x hx => ?_⟩
  obtain ⟨h4, h5, h6⟩ := ((clauseOk_iff n c).1 (h3 c hc)).2 x hx
  exact ⟨h4, by omega⟩
/-- The stage behind the first number. -/
theorem parse_j1 (s s2 : List UInt8) (hs : s2.length ≤ 536870912) (n : Int) (he : s = [112, 32, 99, 110, 102, 32] ++ (itoa n ++ s2)) (hx : ∀ n' cl, s = fmtL n' cl → validC n' cl = true → n' = n ∧ s2 = 32 :: (itoa (cl.length : Int) ++ 10 :: cl.flatMap lineL)) (t : List UInt8) (ht : s2 = 32 :: t) : ∃ r : PR, Ev (fun k => assessorref26_Parse.j1 k n (toB s2) false) r ∧ Acc s r := by
  have hri := rint_f t (by rw [ht] at hs; simp only [List.length_cons] at hs; omega)
  obtain ⟨v, z, hvz⟩ : ∃ v z, rint t = (v, z) := ⟨_, _, rfl⟩
  rw [hvz] at hri
  have hlen : s2.length = t.length + 1 := by rw [ht]; rfl
  have hex : (toB s2).extract 1 (toB s2).size = toB t := by rw [toB_size, toB_extract, List.take_of_length_le (Nat.le_refl _), ht]; rfl
  -- what a format says here
  have hfmt : ∀ n' cl, s = fmtL n' cl → validC n' cl = true → n' = n ∧ v = (cl.length : Int) ∧ z = ((itoa (cl.length : Int)).length : Int) ∧ t = itoa (cl.length : Int) ++ 10 :: cl.flatMap lineL := fun n' cl h1 h2 => by
    obtain ⟨e1, e2⟩ := hx n' cl h1 h2
    rw [ht] at e2
    injection e2 with _ e3
    have hb := valid_lits h2
    rw [e3, rint_itoa _ _ (by omega) (Or.inr ⟨10, _, rfl, by decide⟩)] at hvz
    simp only [Prod.mk.injEq] at hvz
    exact ⟨e1, hvz.1.symm, hvz.2.symm, e3⟩
  have start : ∀ R : PR, Ev (fun k => if z = 0 then (assessorref26_Parse.j2 k n z (toB s2) v true) else (if ((toB s2).size : Int) ≤ (wrap64 (1 + z)) then (assessorref26_Parse.j2 k n z (toB s2) v true) else (if 0 ≤ (wrap64 (1 + z)) then (if (wrap64 (1 + z)) < ((toB s2).size : Int) then (assessorref26_Parse.j2 k n z (toB s2) v ((bt (toB s2) (wrap64 (1 + z))) != 10)) else none) else none))) R → Ev (fun k => assessorref26_Parse.j1 k n (toB s2) false) R := fun R hR => by
    refine Ev.step (f := fun k => (assessorref26_integer.f k (toB t)).bind fun bt334 => if bt334.2 = 0 then (assessorref26_Parse.j2 k n bt334.2 (toB s2) bt334.1 true) else (if ((toB s2).size : Int) ≤ (wrap64 (1 + bt334.2)) then (assessorref26_Parse.j2 k n bt334.2 (toB s2) bt334.1 true) else (if 0 ≤ (wrap64 (1 + bt334.2)) then (if (wrap64 (1 + bt334.2)) < ((toB s2).size : Int) then (assessorref26_Parse.j2 k n bt334.2 (toB s2) bt334.1 ((bt (toB s2) (wrap64 (1 + bt334.2))) != 10)) else none) else none))) (fun k => ?_) (Ev.bind hri hR)
    simp only [assessorref26_Parse.j1]
    rw [if_neg (by simp), if_pos (by rw [toB_size]; omega), hex]
  have bad : Ev (fun k => assessorref26_Parse.j2 k n z (toB s2) v true) noP := Ev.step (f := fun _ => some noP) (fun k => by simp only [assessorref26_Parse.j2]; rw [if_pos trivial]; rfl) (Ev.now _)
  by_cases hz : z = 0
  · refine ⟨noP, start _ (Ev.congr (fun k => by rw [if_pos hz]) bad), acc_bad fun n' cl h1 h2 => ?_⟩
    obtain ⟨_, _, h3, _⟩ := hfmt n' cl h1 h2
    have := itoa_pos (cl.length : Int)
    omega
  · obtain ⟨g1, g2, g3, g4⟩ := rint_good hvz hz
    have hw1 : wrap64 (1 + z) = 1 + z := w64 (by omega) (by omega)
    have hw2 : wrap64 (2 + z) = 2 + z := w64 (by omega) (by omega)
    by_cases hend : z < t.length
    · obtain ⟨b, hb⟩ : ∃ b, b = t[z.toNat] := ⟨_, rfl⟩
      have hdr : t.drop z.toNat = b :: t.drop (z.toNat + 1) := by rw [hb]; exact List.drop_eq_getElem_cons (by omega)
      have hbt : bt (toB s2) (1 + z) = (b.toNat : Int) := bt_toB (by omega) (by rw [ht, show (1 + z).toNat = z.toNat + 1 by omega, List.drop_succ_cons]; exact hdr)
      by_cases hb10 : b = 10
      · have hsplit : t = itoa v ++ 10 :: t.drop (z.toNat + 1) := by
          rw [← g3, ← hb10, ← hdr, List.take_append_drop]
        obtain ⟨r, hr, hg, hx2⟩ := parse_l0 n v _ (t.drop (z.toNat + 1)) [] rfl (by rw [List.length_drop]; simp; omega) (by simp)
        refine ⟨r, start _ (Ev.congr (f := fun k => assessorref26_Parse.j2 k n z (toB s2) v false) (fun k => ?_) (Ev.step (fun k => ?_) hr)), ?_, fun n' cl h1 h2 => ?_⟩
        · rw [if_neg hz, hw1, if_neg (by rw [toB_size]; omega), if_pos (by omega), if_pos (by rw [toB_size]; omega), hbt, hb10]
          rfl
        · simp only [assessorref26_Parse.j2]
          rw [if_neg (by simp), hw2, if_pos (by omega), if_pos (by rw [toB_size]; omega), toB_size, toB_extract, List.take_of_length_le (Nat.le_refl _), ht, show (2 + z).toNat = z.toNat + 1 + 1 by omega, List.drop_succ_cons]
        · rcases hg with h | ⟨cl, h1, h2, h3, h4⟩
          · exact Or.inl h
          · simp only [List.nil_append] at h1 h3 h4
            refine Or.inr ⟨n, cl, h1, ?_, h4⟩
            rw [fmtL_eq, he, ht, hsplit, ← h2, h3]
        · obtain ⟨h3, h4, h5, h6⟩ := hfmt n' cl h1 h2
          have h7 : t.drop (z.toNat + 1) = cl.flatMap lineL := by
            have h8 : t.drop z.toNat = 10 :: cl.flatMap lineL := by rw [h6, h5, Int.toNat_natCast, List.drop_left]
            rw [hdr] at h8
            injection h8
          have h9 := hx2 cl h7 (valid_lits h2).2.2 (by simp [h4]) (by rw [List.nil_append, ← h3]; exact h2)
          rw [h9, h3]
          rfl
      · refine ⟨noP, start _ (Ev.congr (fun k => ?_) bad), acc_bad fun n' cl h1 h2 => ?_⟩
        · have hb : ((b.toNat : Int) != 10) = true := by
            rw [bne_iff_ne]
            intro e
            exact hb10 (UInt8.toNat_inj.1 (by show b.toNat = 10; omega))
          rw [if_neg hz, hw1, if_neg (by rw [toB_size]; omega), if_pos (by omega), if_pos (by rw [toB_size]; omega), hbt, hb]
        · obtain ⟨h3, h4, h5, h6⟩ := hfmt n' cl h1 h2
          have h8 : t.drop z.toNat = 10 :: cl.flatMap lineL := by rw [h6, h5, Int.toNat_natCast, List.drop_left]
          rw [hdr] at h8
          injection h8 with h9 _
          exact hb10 h9
    · refine ⟨noP, start _ (Ev.congr (fun k => by rw [if_neg hz, hw1, if_pos (by rw [toB_size]; omega)]) bad), acc_bad fun n' cl h1 h2 => ?_⟩
      obtain ⟨h3, h4, h5, h6⟩ := hfmt n' cl h1 h2
      have : t.length = (itoa (cl.length : Int) ++ 10 :: cl.flatMap lineL).length := by rw [← h6]
      rw [List.length_append, List.length_cons] at this
      omega
theorem rparse_acc (s : List UInt8) (hs : s.length ≤ 536870912) : ∃ r : PR, Ev (fun k => assessorref26_Parse.f k (toB s)) r ∧ Acc s r := by
  have bad0 : Ev (fun k => assessorref26_Parse.j0 k (toB s) true) noP := Ev.step (f := fun _ => some noP) (fun k => by simp only [assessorref26_Parse.j0]; rw [if_pos trivial]; rfl) (Ev.now _)
  by_cases h6 : s.length < 6
  · refine ⟨noP, Ev.congr (fun k => ?_) bad0, acc_bad fun n cl h1 _ => ?_⟩
    · unfold assessorref26_Parse.f
      rw [if_pos (by rw [toB_size]; omega)]
    · rw [h1, fmtL_eq, List.length_append] at h6
      simp at h6
      omega
  · have hex6 : ((toB s).extract 0 6).toList = s.take 6 := by rw [toB_extract, toB_toL, List.drop_zero]
    by_cases hp : s.take 6 = [112, 32, 99, 110, 102, 32]
    · obtain ⟨s1, hs1⟩ : ∃ s1, s = [112, 32, 99, 110, 102, 32] ++ s1 := ⟨s.drop 6, by rw [← hp, List.take_append_drop]⟩
      have hd6 : s.drop 6 = s1 := by rw [hs1]; rfl
      have hlen : s.length = s1.length + 6 := by rw [hs1]; simp
      have hex : (toB s).extract 6 (toB s).size = toB s1 := by rw [toB_size, toB_extract, List.take_of_length_le (Nat.le_refl _), hd6]
      have hri := rint_f s1 (by omega)
      obtain ⟨v, z, hvz⟩ : ∃ v z, rint s1 = (v, z) := ⟨_, _, rfl⟩
      rw [hvz] at hri
      have hfmt : ∀ n cl, s = fmtL n cl → validC n cl = true → v = n ∧ z = ((itoa n).length : Int) ∧ s1 = itoa n ++ 32 :: (itoa (cl.length : Int) ++ 10 :: cl.flatMap lineL) := fun n cl h1 h2 => by
        have e : s1 = itoa n ++ 32 :: (itoa (cl.length : Int) ++ 10 :: cl.flatMap lineL) := by
          rw [← hd6, h1, fmtL_eq]
          rfl
        have hb := valid_lits h2
        rw [e, rint_itoa _ _ hb.1 (Or.inr ⟨32, _, rfl, by decide⟩)] at hvz
        simp only [Prod.mk.injEq] at hvz
        exact ⟨hvz.1.symm, hvz.2.symm, e⟩
      have hzb : 0 ≤ z ∧ z ≤ s1.length := by
        by_cases hz : z = 0
        · omega
        · have := rint_good hvz hz
          omega
      have hw1 : wrap64 (6 + z) = 6 + z := w64 (by omega) (by omega)
      have hdz : (toB s).extract (6 + z).toNat (toB s).size = toB (s1.drop z.toNat) := by
        rw [toB_size, toB_extract, List.take_of_length_le (Nat.le_refl _), show (6 + z).toNat = 6 + z.toNat by omega, ← List.drop_drop, hd6]
      have start : ∀ R : PR, Ev (fun k => if z = 0 then (assessorref26_Parse.j1 k v (toB (s1.drop z.toNat)) true) else (if (toB (s1.drop z.toNat)).toList = ([] : List UInt8) then (assessorref26_Parse.j1 k v (toB (s1.drop z.toNat)) true) else (if 0 < ((toB (s1.drop z.toNat)).size : Int) then (assessorref26_Parse.j1 k v (toB (s1.drop z.toNat)) ((bt (toB (s1.drop z.toNat)) 0) != 32)) else none))) R → Ev (fun k => assessorref26_Parse.f k (toB s)) R := fun R hR => by
        refine Ev.congr (f := fun k => assessorref26_Parse.j0 k (toB s) false) (fun k => ?_) (Ev.step (f := fun k => (assessorref26_integer.f k (toB s1)).bind fun bt332 => (if 0 ≤ (wrap64 (6 + bt332.2)) then (if (wrap64 (6 + bt332.2)) ≤ ((toB s).size : Int) then (if bt332.2 = 0 then (assessorref26_Parse.j1 k bt332.1 ((toB s).extract ((wrap64 (6 + bt332.2)) : Int).toNat (toB s).size) true) else (if ((toB s).extract ((wrap64 (6 + bt332.2)) : Int).toNat (toB s).size).toList = ([] : List UInt8) then (assessorref26_Parse.j1 k bt332.1 ((toB s).extract ((wrap64 (6 + bt332.2)) : Int).toNat (toB s).size) true) else (if 0 < (((toB s).extract ((wrap64 (6 + bt332.2)) : Int).toNat (toB s).size).size : Int) then (assessorref26_Parse.j1 k bt332.1 ((toB s).extract ((wrap64 (6 + bt332.2)) : Int).toNat (toB s).size) ((bt ((toB s).extract ((wrap64 (6 + bt332.2)) : Int).toNat (toB s).size) 0) != 32)) else none))) else none) else none)) (fun k => ?_) (Ev.bind hri (Ev.congr (fun k => ?_) hR)))
        · unfold assessorref26_Parse.f
          rw [if_neg (by rw [toB_size]; omega), if_pos (by omega), if_pos (by rw [toB_size]; omega), hex6, hp]
          rfl
        · simp only [assessorref26_Parse.j0]
          rw [if_neg (by simp), if_pos (by rw [toB_size]; omega), hex]
        · simp only
          rw [hw1, if_pos (by omega), if_pos (by rw [toB_size]; omega), hdz]
      have bad1 : ∀ s2 : List UInt8, Ev (fun k => assessorref26_Parse.j1 k v (toB s2) true) noP := fun s2 => Ev.step (f := fun _ => some noP) (fun k => by simp only [assessorref26_Parse.j1]; rw [if_pos trivial]; rfl) (Ev.now _)
      by_cases hz : z = 0
      · refine ⟨noP, start _ (Ev.congr (fun k => by rw [if_pos hz]) (bad1 (s1.drop z.toNat))), acc_bad fun n cl h1 h2 => ?_⟩
        obtain ⟨_, h3, _⟩ := hfmt n cl h1 h2
        have := itoa_pos n
        omega
      · obtain ⟨g1, g2, g3, g4⟩ := rint_good hvz hz
        have hrest : ∀ n cl, s = fmtL n cl → validC n cl = true → n = v ∧ s1.drop z.toNat = 32 :: (itoa (cl.length : Int) ++ 10 :: cl.flatMap lineL) := fun n cl h1 h2 => by
          obtain ⟨h3, h4, h5⟩ := hfmt n cl h1 h2
          exact ⟨h3.symm, by rw [h5, h4, Int.toNat_natCast, List.drop_left]⟩
        cases hs2 : s1.drop z.toNat with
        | nil =>
          refine ⟨noP, start _ (Ev.congr (fun k => by rw [if_neg hz, if_pos (by rw [toB_toL, hs2])]) (bad1 (s1.drop z.toNat))), acc_bad fun n cl h1 h2 => ?_⟩
          obtain ⟨_, h3⟩ := hrest n cl h1 h2
          rw [hs2] at h3
          cases h3
        | cons b t =>
          have hbt : bt (toB (s1.drop z.toNat)) 0 = (b.toNat : Int) := bt_toB (by omega) (by rw [hs2]; rfl)
          have hl2 : (s1.drop z.toNat).length = t.length + 1 := by rw [hs2]; rfl
          by_cases hb : b = 32
          · obtain ⟨r, hr, ha⟩ := parse_j1 s (s1.drop z.toNat) (by rw [List.length_drop]; omega) v (by rw [← g3, List.take_append_drop]; exact hs1) hrest t (by rw [hs2, hb])
            refine ⟨r, start _ (Ev.congr (fun k => ?_) hr), ha⟩
            rw [if_neg hz, if_neg (by rw [toB_toL, hs2]; simp), if_pos (by rw [toB_size]; omega), hbt, hb]
            rfl
          · refine ⟨noP, start _ (Ev.congr (fun k => ?_) (bad1 (s1.drop z.toNat))), acc_bad fun n cl h1 h2 => ?_⟩
            · have hb' : ((b.toNat : Int) != 32) = true := by
                rw [bne_iff_ne]
                intro e
                exact hb (UInt8.toNat_inj.1 (by show b.toNat = 32; omega))
              rw [if_neg hz, if_neg (by rw [toB_toL, hs2]; simp), if_pos (by rw [toB_size]; omega), hbt, hb']
            · obtain ⟨_, h3⟩ := hrest n cl h1 h2
              rw [hs2] at h3
              injection h3 with h4 _
              exact hb h4
    · refine ⟨noP, Ev.congr (fun k => ?_) bad0, acc_bad fun n cl h1 _ => ?_⟩
      · unfold assessorref26_Parse.f
        rw [if_neg (by rw [toB_size]; omega), if_pos (by omega), if_pos (by rw [toB_size]; omega), hex6]
        have : (s.take 6 != [112, 32, 99, 110, 102, 32]) = true := by rw [bne_iff_ne]; exact hp
        rw [this]
      · rw [h1, fmtL_eq] at hp
        exact hp rfl
theorem rparse_f (s : List UInt8) (hs : s.length ≤ 536870912) : Ev (fun k => assessorref26_Parse.f k (toB s)) (parseC s) := by
  obtain ⟨r, hr, ha, hb⟩ := rparse_acc s hs
  have e : r = parseC s := by
    rcases parse_self s with h | ⟨h1, h2⟩
    · rcases ha with h3 | ⟨n, cl, h3, h4, h5⟩
      · rw [h3, h]; rfl
      · have h6 : formatC n cl = s := by unfold formatC; rw [if_pos h5, h4]
        have hsm := valid_small h5
        have h7 := parse_back n cl h5 hsm.1 hsm.2
        rw [h6] at h7
        rw [h3, h7]
    · have hv : validC (parseC s).1 (parseC s).2.1 = true := by
        cases hvc : validC (parseC s).1 (parseC s).2.1 with
        | true => rfl
        | false =>
          exfalso
          have h3 : s = [] := by rw [← h2]; exact (format_nil _ _).2 hvc
          rw [h3] at h1
          exact parse_empty h1
      have h4 : s = fmtL (parseC s).1 (parseC s).2.1 := by
        conv => lhs; rw [← h2]
        unfold formatC
        rw [if_pos hv]
      rw [hb _ _ h4 hv, ← h1]
  rw [← e]
  exact hr
end Go.Proofs.YteaohgebocbehaaGreatDoor.Plain
end
section
/- CnfTexts: the walk: true at every formula and text, given what the library's variables hold. -/
set_option linter.unusedVariables false
set_option linter.unusedSimpArgs false
namespace Go.Proofs.YteaohgebocbehaaGreatDoor.Hand
open Go.RowKit Go.Lib Go.Shelf Go.Proofs.YteaohgebocbehaaGreatDoor.Reg Go.Proofs.YteaohgebocbehaaGreatDoorW Go.Proofs.YteaohgebocbehaaGreatDoorW.PrintWords Go.Proofs.YteaohgebocbehaaGreatDoorW.PrintLast Go.Proofs.YteaohgebocbehaaGreatDoorW.PrintMore Go.Proofs.YteaohgebocbehaaGreatDoor.Plain Go.Proofs.YteaohgebocbehaaGreatDoor.XA
attribute [local go_sem] max2_int min2_int max_two min_two max_three min_three max_four min_four
theorem rparse2_calls (t : List UInt8) (hs : t.length ≤ 536870912) (W : World) (r : Int × List (List Int) × Int) (hr : r = parseC t) :
    Calls Tryz.prog 27 #[.string (toB t)] W fun e w' => ∃ A c, e = .returned (.tuple #[.agg #[.int .i64 r.1, .slice A r.2.1.length c], .int .i64 r.2.2]) ∧ r.2.1.length ≤ c ∧ kL.C w' A r.2.1.length r.2.1 ∧ Below W.heap.size W w' := by
  obtain ⟨k, h⟩ := (rparse_f t hs).rounds
  rw [← hr] at h
  obtain ⟨r1, r2, r3⟩ := r
  refine (assessorref26_Parse.calls k (toB t) r1 r2 r3 W h).mono ?_
  rintro e w' ⟨v, rfl, hS, hb⟩
  obtain ⟨A, c, rfl⟩ := Kd.S_slice hS
  exact ⟨A, c, rfl, (Kd.S_reads' hS).2.1, (Kd.S_reads' hS).2.2, hb⟩
set_option maxHeartbeats 16000000 in
set_option maxRecDepth 100000 in
theorem Texts_calls (n : Int) (A : Option Addr) (c : Nat) (cl : List (List Int)) (text : List UInt8) (w : World) (hr : kL.C w A cl.length cl) (hc : cl.length ≤ c) (hT : Tabs w) :
    Calls Tryz.prog 6 #[.agg #[.int .i64 n, .slice A cl.length c], .string (toB text)] w fun e w' => e = .returned (.bool true) ∧ Below w.heap.size w w' := by
  have hu24 := Tryz.underlying24
  have HT := Aside0.mk hT
  have HR := Aside0.mk hr
  have HC := Aside0.mk hc
  clear hT hr hc
  go_enter Tryz.func6, Tryz.ntmps6
  by_cases h1 : 40 < (cl.length : Int)
  · have d1 : decide (40 < (cl.length : Int)) = true := decide_eq_true h1
    clear h1
    go_wp2_with (first
      | ((with_reducible refine gate_dst (N := 2) rfl ?_); refine box_event ?hg (N := 2) ?hd (cs := #[.int .i64 n, .slice A cl.length c]) (t := 24) ?hr ?_; (case hd => rfl); (case hg => rfl); (case hr => first | (go_simp; done) | (go_simp; rfl)); intro g2 hg_ w2 h1_ h2_; have BK2 := Aside0.mk h1_; have HB2 := Aside0.mk h2_; have GEg2 := Aside0.mk hg_; clear h1_ h2_ hg_)
      | (go_at_call 10; refine (awake_calls w2 (HT.out.same HB2.out)).mono ?_; rintro e w3 ⟨rfl, hb⟩; have HL := Aside0.mk (LSt.later (⟨BK2.out, HB2.out⟩ : LSt w w2 g2 n A cl.length c) hb); have k0 := HL.out.cells.1; have k1 := HL.out.cells.2; clear hb))
    go_ret
    exact ⟨rfl, HL.out.below⟩
  have d1 : decide (40 < (cl.length : Int)) = false := decide_eq_false h1
  have H1 := Aside0.mk h1
  clear h1
  go_wp2_with (first
    | ((with_reducible refine gate_dst (N := 2) rfl ?_); refine box_event ?hg (N := 2) ?hd (cs := #[.int .i64 n, .slice A cl.length c]) (t := 24) ?hr ?_; (case hd => rfl); (case hg => rfl); (case hr => first | (go_simp; done) | (go_simp; rfl)); intro g2 hg_ w2 h1_ h2_; have BK2 := Aside0.mk h1_; have HB2 := Aside0.mk h2_; have GEg2 := Aside0.mk hg_; clear h1_ h2_ hg_)
    | (go_at_call 10; refine (awake_calls w2 (HT.out.same HB2.out)).mono ?_; rintro e w3 ⟨rfl, hb⟩; have HL := Aside0.mk (LSt.later (⟨BK2.out, HB2.out⟩ : LSt w w2 g2 n A cl.length c) hb); have k0 := HL.out.cells.1; have k1 := HL.out.cells.2; clear hb))
  refine (small_calls 0 0 40 A c cl w3 (Kd.C_below HR.out HL.out.below) HC.out (by have := H1.out; omega)).mono ?_
  rintro e w4 ⟨rfl, hb⟩
  have HL4 := Aside0.mk (HL.out.later hb)
  obtain ⟨k40, k41⟩ := HL4.out.cells
  clear hb k0 k1 BK2 HB2 HL
  obtain ⟨sm, hsm⟩ : ∃ b, b = smallC 0 cl 0 40 := ⟨_, rfl⟩
  rw [← hsm]
  have HSM := Aside0.mk hsm
  clear hsm
  cases sm with
  | false =>
    go_wp2
    go_ret
    exact ⟨rfl, HL4.out.below⟩
  | true =>
    by_cases h2 : 400 < (text.length : Int)
    · have d2 : decide (400 < ((toB text).size : Int)) = true := decide_eq_true h2
      clear h2
      go_wp2
      go_ret
      exact ⟨rfl, HL4.out.below⟩
    have d2 : decide (400 < ((toB text).size : Int)) = false := decide_eq_false h2
    have H2 := Aside0.mk h2
    clear h2
    have h30 := (small_true HSM.out.symm).1
    have HFF := Aside0.mk (show cl.length ≤ 1000000 ∧ ∀ c ∈ cl, c.length ≤ 1000000 from ⟨by have := H1.out; omega, fun c hc => by have := h30 c hc; omega⟩)
    have HF := Aside0.mk (small_fine HSM.out.symm (by have := H1.out; omega))
    clear h30
    obtain ⟨r, hr⟩ : ∃ r, r = parseC text := ⟨_, rfl⟩
    have HPR := Aside0.mk hr
    have HFI : Aside0 (Fine r.2.1) := ⟨by rw [hr]; exact parse_fine text (by have := H2.out; omega)⟩
    clear hr
    obtain ⟨ft, hft⟩ : ∃ f, f = toB (formatC n cl) := ⟨_, rfl⟩
    have HFT := Aside0.mk hft
    clear hft
    obtain ⟨rn, rc, re⟩ := r
    simp only at HFI
    go_wp2_with (fail)
    refine (parse2_calls text (by have := H2.out; omega) w4 (HT.out.same HL4.out.below) (rn, rc, re) HPR.out).mono ?_
    rintro e w5 ⟨A5, c5, rfl, hc5, hr5, hb5⟩
    have HL5 := Aside0.mk (HL4.out.later hb5)
    have HC5 := Aside0.mk (And.intro hc5 hr5)
    clear hc5 hr5 hb5 k40 k41 HL4
    simp only at HC5 ⊢
    go_wp2_with (first
      | ((with_reducible refine gate_dst (N := 5) rfl ?_); refine box_event ?hg (N := 5) ?hd (cs := #[.int .i64 0, .slice none 0 0]) (t := 24) ?hr ?_; (case hd => rfl); (case hg => rfl); (case hr => first | (go_simp; done) | (go_simp; rfl)); intro g5 hg_ w51 h1_ h2_; have BK5 := Aside0.mk h1_; have HB5 := Aside0.mk h2_; have GEg5 := Aside0.mk hg_; clear h1_ h2_ hg_)
      | (((with_reducible refine gate_ (.store 24 (.tmp 5) (.tmp 30)) rfl ?_); refine st_box rfl rfl 24 (.tmp 5) (.tmp 30) rfl (g := g5) (T := 24) (cur := #[.int .i64 0, .slice none 0 0]) (u := .agg #[.int .i64 rn, .slice A5 rc.length c5]) rfl rfl (BK5.out) size24 rfl (by simp [Value.cells, Value.oneCell']) ?_; intro w52 h1_ h2_; have BK52 := Aside0.mk h1_; have HG52 := Aside0.mk h2_; clear h1_ h2_); have HX52 := Aside0.mk (show Below w5.heap.size w5 w52 from below_grown HB5.out HB5.out.size HG52.out (by rw [GEg5.out]; exact Nat.le_refl _)); have HL52 := Aside0.mk (HL5.out.later HX52.out)))
    refine (rparse2_calls text (by have := H2.out; omega) w52 (rn, rc, re) HPR.out).mono ?_
    rintro e w6 ⟨A6, c6, rfl, hc6, hr6, hb6⟩
    have HL6 := Aside0.mk (HL52.out.later hb6)
    have HC6 := Aside0.mk (And.intro hc6 hr6)
    have BK6 := Aside0.mk (blk_below BK52.out hb6)
    have HC56 := Aside0.mk (And.intro HC5.out.1 (Kd.C_below (Kd.C_below HC5.out.2 HX52.out) hb6))
    clear hc6 hr6 hb6 BK5 HB5 GEg5 BK52 HG52 HX52 HL52 HL5 HC5
    simp only at HC6 HC56 ⊢
    go_upto_region 7 with (first
      | ((with_reducible refine gate_dst (N := 7) rfl ?_); refine box_event ?hg (N := 7) ?hd (cs := #[.int .i64 0, .slice none 0 0]) (t := 24) ?hr ?_; (case hd => rfl); (case hg => rfl); (case hr => first | (go_simp; done) | (go_simp; rfl)); intro g7 hg_ w61 h1_ h2_; have BK7 := Aside0.mk h1_; have HB7 := Aside0.mk h2_; have GEg7 := Aside0.mk hg_; clear h1_ h2_ hg_)
      | (((with_reducible refine gate_ (.store 24 (.tmp 7) (.tmp 35)) rfl ?_); refine st_box rfl rfl 24 (.tmp 7) (.tmp 35) rfl (g := g7) (T := 24) (cur := #[.int .i64 0, .slice none 0 0]) (u := .agg #[.int .i64 rn, .slice A6 rc.length c6]) rfl rfl (BK7.out) size24 rfl (by simp [Value.cells, Value.oneCell']) ?_; intro w7 h1_ h2_; have BK72 := Aside0.mk h1_; have HG72 := Aside0.mk h2_; clear h1_ h2_)))
    have HX7 := Aside0.mk (show Below w6.heap.size w6 w7 from below_grown HB7.out HB7.out.size HG72.out (by rw [GEg7.out]; exact Nat.le_refl _))
    have HL7 := Aside0.mk (HL6.out.later HX7.out)
    have BK57 := Aside0.mk (blk_below BK6.out HX7.out)
    have HC57 := Aside0.mk (And.intro HC56.out.1 (Kd.C_below HC56.out.2 HX7.out))
    have HC67 := Aside0.mk (And.intro HC6.out.1 (Kd.C_below HC6.out.2 HX7.out))
    clear BK7 HB7 GEg7 HG72 HX7 BK6 HC56 HC6 HL6
    -- what the last region's loads read, kept by every step
    have hcells : ∀ W, Below w7.heap.size w7 W → (W.cell? ⟨g2, 0, none⟩ = some (.int .i64 n) ∧ W.cell? ⟨g2, 1, none⟩ = some (.slice A cl.length c)) ∧ (W.cell? ⟨g5, 0, none⟩ = some (.int .i64 rn) ∧ W.cell? ⟨g5, 1, none⟩ = some (.slice A5 rc.length c5)) ∧ (W.cell? ⟨g7, 0, none⟩ = some (.int .i64 rn) ∧ W.cell? ⟨g7, 1, none⟩ = some (.slice A6 rc.length c6)) := fun W hW => by
      have h1 := (HL7.out.later hW).cells
      have b5 := blk_below BK57.out hW
      have b7 := blk_below BK72.out hW
      exact ⟨h1, ⟨(blk_cell b5 0).trans rfl, (blk_cell b5 1).trans rfl⟩, ⟨(blk_cell b7 0).trans rfl, (blk_cell b7 1).trans rfl⟩⟩
    have HCE := Aside0.mk hcells
    clear hcells
    have hfm : ∀ W, Below w7.heap.size w7 W → Calls Tryz.prog 28 #[.agg #[.int .i64 n, .slice A cl.length c]] W (fun e w' => e = .returned (.string ft) ∧ Below W.heap.size W w') := fun W hW => by
      have hB := below_step HL7.out.below hW
      rw [HFT.out]
      exact Format_calls n A c cl W (Kd.C_below HR.out hB) HC.out HF.out (HT.out.same hB)
    have HFM := Aside0.mk hfm
    clear hfm
    have hrf : ∀ W, Below w7.heap.size w7 W → Calls Tryz.prog 29 #[.agg #[.int .i64 n, .slice A cl.length c]] W (fun e w' => e = .returned (.string ft) ∧ Below W.heap.size W w') := fun W hW => by
      rw [HFT.out]
      exact rformat_calls n A c cl W (Kd.C_below HR.out (below_step HL7.out.below hW)) HC.out HFF.out
    have HRF := Aside0.mk hrf
    clear hrf
    have hsa : ∀ W, Below w7.heap.size w7 W → Calls Tryz.prog 23 #[.agg #[.int .i64 rn, .slice A5 rc.length c5], .agg #[.int .i64 rn, .slice A6 rc.length c6]] W (fun e w' => e = .returned (.bool true) ∧ Below W.heap.size W w') := fun W hW =>
      same2_calls rn A5 A6 c5 c6 rc W (Kd.C_below HC57.out.2 hW) HC57.out.1 (Kd.C_below HC67.out.2 hW) HC67.out.1 HFI.out
    have HSA := Aside0.mk hsa
    clear hsa
    have hqq : (ft.toList == ft.toList) = true := by simp
    have hq0 := HCE.out _ (Below.refl _ _)
    have s00 := hq0.1.1
    have s01 := hq0.1.2
    have s50 := hq0.2.1.1
    have s51 := hq0.2.1.2
    have s70 := hq0.2.2.1
    have s71 := hq0.2.2.2
    refine start_ (n := 16) (S := fun W' => (W'.cell? ⟨g2, 0, none⟩ = some (.int .i64 n) ∧ W'.cell? ⟨g2, 1, none⟩ = some (.slice A cl.length c)) ∧ (W'.cell? ⟨g5, 0, none⟩ = some (.int .i64 rn) ∧ W'.cell? ⟨g5, 1, none⟩ = some (.slice A5 rc.length c5)) ∧ (W'.cell? ⟨g7, 0, none⟩ = some (.int .i64 rn) ∧ W'.cell? ⟨g7, 1, none⟩ = some (.slice A6 rc.length c6))) (ds := []) #[false, false, false, false, false, false, false, false, false, false, false, false, false, false, false, false] (by kernel_rfl) rfl rfl (HCE.out _ (below_drewN w7 1)) (fun hHeld => ?_)
    refine take_ (i := 0) (N := some 37) (v := ?_) (a' := ?_) #[true, false, false, false, false, false, false, false, false, false, false, false, false, false, false, false] rfl rfl (by kernel_rfl) (fun _ _ _ h => h) (Or.inl ⟨by rfl, ?_⟩) hHeld ?_ ?_
    rotate_left
    · rintro w' ⟨⟨s0_, s1_⟩, ⟨s2_, s3_⟩, ⟨s4_, s5_⟩⟩
      go_simp
      with_reducible rfl
    rotate_left
    · simp only [Act.put, sA, sZ, sS, i64_w]
      rfl
    refine take_ (i := 2) (N := some 39) (v := ?_) (a' := ?_) #[true, false, true, false, false, false, false, false, false, false, false, false, false, false, false, false] rfl rfl (by kernel_rfl) (fun _ _ _ h => h) (Or.inl ⟨by rfl, ?_⟩) hHeld ?_ ?_
    rotate_left
    · rintro w' ⟨⟨s0_, s1_⟩, ⟨s2_, s3_⟩, ⟨s4_, s5_⟩⟩
      go_simp
      with_reducible rfl
    rotate_left
    · simp only [Act.put, sA, sZ, sS, i64_w]
      rfl
    refine one_ (i := 1) (N := some 38) #[true, true, true, false, false, false, false, false, false, false, false, false, false, false, false, false] rfl rfl (by kernel_rfl) (by decide) (fun K hK => ?_)
    refine call_ 28 #[.agg #[.int .i64 n, .slice A cl.length c]] (by rfl) rfl (by go_simp; try rfl) ?_
    refine (HFM.out w7.drew (below_drewN w7 1)).mono ?_
    rintro e w8 ⟨rfl, hb⟩
    have HB8 := Aside0.mk (below_step (below_drewN w7 1) hb)
    clear hb
    refine ⟨_, rfl, ?_⟩
    refine hK.out _ _ (HCE.out _ HB8.out) (fun hHeld => ?_)
    clear hK K
    refine norm_ (a' := ?_) ?_ ?_
    rotate_left
    · show Act.put _ (some 38) _ = _
      simp only [Act.put, sA, sZ, sS, i64_w]
      rfl
    refine one_ (i := 3) (N := some 40) #[true, true, true, true, false, false, false, false, false, false, false, false, false, false, false, false] rfl rfl (by kernel_rfl) (by decide) (fun K hK => ?_)
    refine call_ 29 #[.agg #[.int .i64 n, .slice A cl.length c]] (by rfl) rfl (by go_simp; try rfl) ?_
    refine (HRF.out w8 HB8.out).mono ?_
    rintro e w9 ⟨rfl, hb⟩
    have HB9 := Aside0.mk (below_step HB8.out hb)
    clear hb
    refine ⟨_, rfl, ?_⟩
    refine hK.out _ _ (HCE.out _ HB9.out) (fun hHeld => ?_)
    clear hK K
    refine norm_ (a' := ?_) ?_ ?_
    rotate_left
    · show Act.put _ (some 40) _ = _
      simp only [Act.put, sA, sZ, sS, i64_w]
      rfl
    refine pure_ (i := 4) (N := some 41) (v := ?_) (a' := ?_) #[true, true, true, true, true, false, false, false, false, false, false, false, false, false, false, false] rfl rfl (by kernel_rfl) (fun _ _ _ h => h) (Or.inl ⟨by rfl, ?_⟩) ?_ ?_
    rotate_left
    · intro w'
      go_simp
      with_reducible rfl
    rotate_left
    · simp only [Act.put, sA, sZ, sS, i64_w]
      rfl
    refine pure_ (i := 5) (N := some 42) (v := ?_) (a' := ?_) #[true, true, true, true, true, true, false, false, false, false, false, false, false, false, false, false] rfl rfl (by kernel_rfl) (fun _ _ _ h => h) (Or.inl ⟨by rfl, ?_⟩) ?_ ?_
    rotate_left
    · intro w'
      go_simp
      with_reducible rfl
    rotate_left
    · simp only [Act.put, sA, sZ, sS, i64_w]
      rfl
    refine take_ (i := 6) (N := some 43) (v := ?_) (a' := ?_) #[true, true, true, true, true, true, true, false, false, false, false, false, false, false, false, false] rfl rfl (by kernel_rfl) (fun _ _ _ h => h) (Or.inl ⟨by rfl, ?_⟩) hHeld ?_ ?_
    rotate_left
    · rintro w' ⟨⟨s0_, s1_⟩, ⟨s2_, s3_⟩, ⟨s4_, s5_⟩⟩
      go_simp
      with_reducible rfl
    rotate_left
    · simp only [Act.put, sA, sZ, sS, i64_w]
      rfl
    refine take_ (i := 7) (N := some 44) (v := ?_) (a' := ?_) #[true, true, true, true, true, true, true, true, false, false, false, false, false, false, false, false] rfl rfl (by kernel_rfl) (fun _ _ _ h => h) (Or.inl ⟨by rfl, ?_⟩) hHeld ?_ ?_
    rotate_left
    · rintro w' ⟨⟨s0_, s1_⟩, ⟨s2_, s3_⟩, ⟨s4_, s5_⟩⟩
      go_simp
      with_reducible rfl
    rotate_left
    · simp only [Act.put, sA, sZ, sS, i64_w]
      rfl
    refine one_ (i := 8) (N := some 45) #[true, true, true, true, true, true, true, true, true, false, false, false, false, false, false, false] rfl rfl (by kernel_rfl) (by decide) (fun K hK => ?_)
    refine call_ 23 #[.agg #[.int .i64 rn, .slice A5 rc.length c5], .agg #[.int .i64 rn, .slice A6 rc.length c6]] (by rfl) rfl (by go_simp; try rfl) ?_
    refine (HSA.out w9 HB9.out).mono ?_
    rintro e w10 ⟨rfl, hb⟩
    have HB10 := Aside0.mk (below_step HB9.out hb)
    clear hb
    refine ⟨_, rfl, ?_⟩
    refine hK.out _ _ (HCE.out _ HB10.out) (fun hHeld => ?_)
    clear hK K
    refine norm_ (a' := ?_) ?_ ?_
    rotate_left
    · show Act.put _ (some 45) _ = _
      simp only [Act.put, sA, sZ, sS, i64_w]
      rfl
    refine pure_ (i := 9) (N := some 46) (v := ?_) (a' := ?_) #[true, true, true, true, true, true, true, true, true, true, false, false, false, false, false, false] rfl rfl (by kernel_rfl) (fun _ _ _ h => h) (Or.inl ⟨by rfl, ?_⟩) ?_ ?_
    rotate_left
    · intro w'
      go_simp
      with_reducible rfl
    rotate_left
    · simp only [Act.put, sA, sZ, sS, i64_w]
      rfl
    refine pure_ (i := 10) (N := some 47) (v := ?_) (a' := ?_) #[true, true, true, true, true, true, true, true, true, true, true, false, false, false, false, false] rfl rfl (by kernel_rfl) (fun _ _ _ h => h) (Or.inl ⟨by rfl, ?_⟩) ?_ ?_
    rotate_left
    · intro w'
      go_simp
      with_reducible rfl
    rotate_left
    · simp only [Act.put, sA, sZ, sS, i64_w]
      rfl
    refine pure_ (i := 11) (N := some 48) (v := ?_) (a' := ?_) #[true, true, true, true, true, true, true, true, true, true, true, true, false, false, false, false] rfl rfl (by kernel_rfl) (fun _ _ _ h => h) (Or.inl ⟨by rfl, ?_⟩) ?_ ?_
    rotate_left
    · intro w'
      go_simp
      with_reducible rfl
    rotate_left
    · simp only [Act.put, sA, sZ, sS, i64_w]
      rfl
    refine pure_ (i := 12) (N := some 49) (v := ?_) (a' := ?_) #[true, true, true, true, true, true, true, true, true, true, true, true, true, false, false, false] rfl rfl (by kernel_rfl) (fun _ _ _ h => h) (Or.inl ⟨by rfl, ?_⟩) ?_ ?_
    rotate_left
    · intro w'
      go_simp
      with_reducible rfl
    rotate_left
    · simp only [Act.put, sA, sZ, sS, i64_w]
      rfl
    refine pure_ (i := 13) (N := some 50) (v := ?_) (a' := ?_) #[true, true, true, true, true, true, true, true, true, true, true, true, true, true, false, false] rfl rfl (by kernel_rfl) (fun _ _ _ h => h) (Or.inl ⟨by rfl, ?_⟩) ?_ ?_
    rotate_left
    · intro w'
      go_simp
      with_reducible rfl
    rotate_left
    · simp only [Act.put, sA, sZ, sS, i64_w]
      rfl
    refine pure_ (i := 14) (N := some 51) (v := ?_) (a' := ?_) #[true, true, true, true, true, true, true, true, true, true, true, true, true, true, true, false] rfl rfl (by kernel_rfl) (fun _ _ _ h => h) (Or.inl ⟨by rfl, ?_⟩) ?_ ?_
    rotate_left
    · intro w'
      go_simp
      with_reducible rfl
    rotate_left
    · simp only [Act.put, sA, sZ, sS, i64_w]
      rfl
    refine pure_ (i := 15) (N := some 4) (v := ?_) (a' := ?_) #[true, true, true, true, true, true, true, true, true, true, true, true, true, true, true, true] rfl rfl (by kernel_rfl) (fun _ _ _ h => h) (Or.inl ⟨by rfl, ?_⟩) ?_ ?_
    rotate_left
    · intro w'
      go_simp
      with_reducible rfl
    rotate_left
    · simp only [Act.put, sA, sZ, sS, i64_w]
      rfl
    refine done_ (by kernel_rfl) ?_
    go_wp2
    go_ret
    exact ⟨rfl, below_step HL7.out.below HB10.out⟩
end Go.Proofs.YteaohgebocbehaaGreatDoor.Hand
end
