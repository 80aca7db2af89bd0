/- Texts of this claim, one behind the other; each begins with what it proves. Conditions as written in each theorem. -/
import Derived.Test.YteaohgebocbehaaGreatDoorHC0
import Derived.Test.YteaohgebocbehaaGreatDoorHC1
import Derived.Lib.CountLaws
import Derived.Lib.AtoiTie
import Derived.Lib.ItoaNum
import Derived.Lib.ItoaLen
import Derived.Test.YteaohgebocbehaaGreatDoorXAx10
import Derived.Test.YteaohgebocbehaaGreatDoorXAx3
import Derived.Outline
section
/- Parse of what Format writes: the plain part (lines, words). No conditions. -/
set_option linter.unusedVariables false
namespace Go.Proofs.YteaohgebocbehaaGreatDoor.Plain
open Go.Lib Go.Proofs.YteaohgebocbehaaGreatDoor.Hand
theorem indexByte_at (c : UInt8) (r : List UInt8) : ∀ l : List UInt8, (∀ b ∈ l, b ≠ c) → indexByte (l ++ c :: r) c = l.length
  | [], _ => by simp [indexByte]
  | b :: t, h => by
    have ih := indexByte_at c r t (fun x hx => h x (List.mem_cons_of_mem _ hx))
    have hb : (b == c) = false := beq_eq_false_iff_ne.2 (h b List.mem_cons_self)
    simp only [List.cons_append, indexByte, hb, ih, List.length_cons]
    simp
theorem indexByte_no (c : UInt8) : ∀ l : List UInt8, (∀ b ∈ l, b ≠ c) → indexByte l c = -1
  | [], _ => rfl
  | b :: t, h => by
    have ih := indexByte_no c t (fun x hx => h x (List.mem_cons_of_mem _ hx))
    have hb : (b == c) = false := beq_eq_false_iff_ne.2 (h b List.mem_cons_self)
    simp [indexByte, hb, ih]
theorem cut_at (l rest : List UInt8) (h : ∀ b ∈ l, b ≠ 10) : cut (l ++ 10 :: rest) [10] = (l, rest, true) := by
  unfold cut
  rw [index_one, indexByte_at 10 rest l h, if_pos (by omega)]
  simp
theorem linesOf_at (l rest : List UInt8) (h : ∀ b ∈ l, b ≠ 10) : linesOf (l ++ 10 :: rest) = l :: linesOf rest := by
  rw [linesOf_cons (by simp), cut_at l rest h]
theorem words_list (l : List UInt8) : (words l).map (fun w => w.data.toList) = split l [32] := splitB_data spaceB 0 _ _
theorem count_none (a : List UInt8) (h : ∀ b ∈ a, b ≠ 32) : a.count 32 = 0 := List.count_eq_zero.2 fun hm => h 32 hm rfl
theorem split_no (a : List UInt8) (h : ∀ b ∈ a, b ≠ 32) : split a [32] = [a] := by
  unfold split
  rw [count_one, count_none a h]
  rfl
theorem split_at' (a r : List UInt8) (h : ∀ b ∈ a, b ≠ 32) : split (a ++ 32 :: r) [32] = a :: split r [32] := by
  unfold split
  rw [count_one, count_one, List.count_append, count_none a h, List.count_cons_self, Nat.zero_add]
  have hi : index (a ++ 32 :: r) [32] = a.length := by rw [index_one, indexByte_at 32 r a h]
  simp only [splitK, hi]
  rw [if_neg (by simp)]
  simp
theorem decFrom_snoc (b : UInt8) : ∀ (l : List UInt8) (acc : Nat), decFrom acc (l ++ [b]) = (decFrom acc l).bind fun m => (digitVal b).map fun d => m * 10 + d
  | [], acc => by cases h : digitVal b <;> simp [decFrom, h]
  | x :: t, acc => by
    simp only [List.cons_append, decFrom]
    cases h : digitVal x with
    | none => simp
    | some d => simp only [decFrom_snoc b t]
theorem digit_val {d : Nat} (h : d < 10) : digitVal (UInt8.ofNat (48 + d)) = some d := by
  have : (UInt8.ofNat (48 + d)).toNat = 48 + d := by simp; omega
  unfold digitVal
  rw [this, if_pos (by omega)]
  congr 1
  omega
theorem dec_round (u : Nat) : decFrom 0 (decDigits u) = some u := by
  induction u using Nat.strongRecOn with
  | _ u ih =>
    rw [decDigits]
    split
    · rename_i h
      simp only [decFrom, digit_val h, Nat.zero_mul, Nat.zero_add]
    · rename_i h
      rw [decFrom_snoc, ih (u / 10) (by omega), Option.bind_some, digit_val (by omega)]
      simp
      omega
theorem dec_bytes (u : Nat) : ∀ b ∈ decDigits u, 48 ≤ b.toNat ∧ b.toNat ≤ 57 := by
  induction u using Nat.strongRecOn with
  | _ u ih =>
    intro b hb
    rw [decDigits] at hb
    split at hb
    · rename_i h
      rw [List.mem_singleton.1 hb]
      have : (UInt8.ofNat (48 + u)).toNat = 48 + u := by simp; omega
      omega
    · rename_i h
      rcases List.mem_append.1 hb with hb | hb
      · exact ih (u / 10) (by omega) b hb
      · rw [List.mem_singleton.1 hb]
        have : (UInt8.ofNat (48 + u % 10)).toNat = 48 + u % 10 := by simp; omega
        omega
theorem itoa_bytes (n : Int) : ∀ b ∈ Lib.itoa n, b ≠ 10 ∧ b ≠ 32 := by
  intro b hb
  unfold Lib.itoa at hb
  split at hb
  · rcases List.mem_cons.1 hb with rfl | hb
    · decide
    · have := dec_bytes _ b hb
      constructor <;> (rintro rfl; revert this; decide)
  · have := dec_bytes _ b hb
    constructor <;> (rintro rfl; revert this; decide)
theorem nDigits_le : ∀ (k u : Nat), u < 10 ^ (k + 1) → nDigits u ≤ k + 1
  | 0, u, h => by rw [nDigits_small (by simpa using h)]; exact Nat.le_refl _
  | k + 1, u, h => by
    rw [nDigits]
    split
    · omega
    · have := nDigits_le k (u / 10) (by rw [Nat.pow_succ] at h; omega)
      omega
theorem mag_round (u : Nat) (h : u < 10 ^ 18) : parseMag (decDigits u) = .ok u := by
  have hl := decDigits_length u
  have hn := nDigits_le 17 u h
  rw [parseMag_short _ (by omega)]
  unfold decNat
  rw [if_neg, dec_round]
  · rfl
  · intro he
    have : (decDigits u).length = 0 := by simpa using he
    have : nDigits u = 0 := by omega
    rw [nDigits] at this
    split at this <;> omega
theorem dec_ne (u : Nat) : decDigits u ≠ [] := by
  intro h
  rw [decDigits] at h
  split at h <;> simp at h
theorem atoi_round (n : Int) (h : n.natAbs < 10 ^ 18) : atoiV (Lib.itoa n) = n := by
  unfold atoiV
  have key : atoiAll (Lib.itoa n) = .ok n := by
    unfold Lib.itoa
    by_cases h0 : n < 0
    · rw [if_pos h0]
      simp only [atoiAll]
      rw [if_pos (by decide), mag_round _ h]
      have e : (45 : UInt8).toNat = 45 := rfl
      simp only [e, not_true_eq_false, false_and, if_false, true_and, if_true]
      rw [if_neg (by omega)]
      congr 1
      omega
    · rw [if_neg h0]
      obtain ⟨c, r, hcr⟩ : ∃ c r, decDigits n.toNat = c :: r := by
        cases hd : decDigits n.toNat with
        | nil => exact absurd hd (dec_ne _)
        | cons c r => exact ⟨c, r, rfl⟩
      have hc := dec_bytes n.toNat c (by rw [hcr]; exact List.mem_cons_self)
      have hm := mag_round n.toNat (by omega)
      rw [hcr] at hm ⊢
      simp only [atoiAll]
      rw [if_neg (by omega), hm]
      have h1 : ¬ c.toNat = 45 := by omega
      simp only [h1, not_false_eq_true, true_and, false_and, if_false]
      rw [if_neg (by omega)]
      congr 1
      omega
  rw [key]
def lineB (c : List Int) : List UInt8 := (c.flatMap fun l => Lib.itoa l ++ [32]) ++ [48]
theorem lineL_eq (c : List Int) : lineL c = lineB c ++ [10] := by simp [lineL, lineB]
theorem lineB_cons (x : Int) (t : List Int) : lineB (x :: t) = Lib.itoa x ++ 32 :: lineB t := by simp [lineB]
theorem lineB_bytes : ∀ (c : List Int), ∀ b ∈ lineB c, b ≠ 10
  | [], b, hb => by rw [show lineB [] = [48] from rfl] at hb; rw [List.mem_singleton.1 hb]; decide
  | x :: t, b, hb => by
    rw [lineB_cons] at hb
    rcases List.mem_append.1 hb with hb | hb
    · exact (itoa_bytes x b hb).1
    · rcases List.mem_cons.1 hb with rfl | hb
      · decide
      · exact lineB_bytes t b hb
theorem lineB_split : ∀ c : List Int, split (lineB c) [32] = c.map Lib.itoa ++ [[48]]
  | [] => split_no [48] (by decide)
  | x :: t => by
    rw [lineB_cons, split_at' _ _ (fun b hb => (itoa_bytes x b hb).2), lineB_split t]
    rfl
theorem lits_back (c : List Int) (h : ∀ x ∈ c, x.natAbs < 10 ^ 18) : lineLits (lineB c) = c := by
  have hw := words_list (lineB c)
  rw [lineB_split] at hw
  have e : lineLits (lineB c) = (((words (lineB c)).map fun w => w.data.toList).dropLast).map atoiV := by
    unfold lineLits
    rw [← List.map_dropLast, List.map_map]
    rfl
  rw [e, hw, List.dropLast_concat, List.map_map]
  conv => rhs; rw [← List.map_id c]
  exact List.map_congr_left fun x hx => atoi_round x (h x hx)
def headB (n : Int) (k : Nat) : List UInt8 := [112] ++ 32 :: ([99, 110, 102] ++ 32 :: (Lib.itoa n ++ 32 :: Lib.itoa k))
theorem headL_eq (n : Int) (k : Nat) : headL n k = headB n k ++ [10] := by simp [headL, headB]
theorem headB_bytes (n : Int) (k : Nat) : ∀ b ∈ headB n k, b ≠ 10 := by
  intro b hb
  simp only [headB, List.mem_append, List.mem_cons, List.not_mem_nil, or_false] at hb
  rcases hb with rfl | rfl | (rfl | rfl | rfl) | rfl | hb | rfl | hb
  all_goals first | decide | exact (itoa_bytes _ b hb).1
theorem headB_split (n : Int) (k : Nat) : split (headB n k) [32] = [[112], [99, 110, 102], Lib.itoa n, Lib.itoa k] := by
  unfold headB
  rw [split_at' _ _ (by decide), split_at' _ _ (by decide), split_at' _ _ (fun b hb => (itoa_bytes n b hb).2), split_no _ (fun b hb => (itoa_bytes k b hb).2)]
theorem head_words (n : Int) (k : Nat) : (words (headB n k)).length = 4 ∧ (wordAt (headB n k) 2).data.toList = Lib.itoa n := by
  have hw := words_list (headB n k)
  rw [headB_split] at hw
  have hl : (words (headB n k)).length = 4 := by
    have := congrArg List.length hw
    simpa using this
  refine ⟨hl, ?_⟩
  have h2 : ((words (headB n k)).map fun w => w.data.toList)[2]? = some (Lib.itoa n) := by rw [hw]; rfl
  rw [List.getElem?_map, List.getElem?_eq_getElem (by omega)] at h2
  unfold wordAt
  rw [List.getD_eq_getElem?_getD, List.getElem?_eq_getElem (show 2 < (words (headB n k)).length by omega)]
  simpa using h2
theorem run_lines (n : Int) : ∀ (cl done : List (List Int)), (∀ c ∈ cl, ∀ x ∈ c, x.natAbs < 10 ^ 18) → PP.run ⟨false, n, done⟩ (cl.map lineB) = some ⟨false, n, done ++ cl⟩
  | [], done, _ => by simp [PP.run]
  | c :: t, done, h => by
    simp only [List.map_cons, PP.run, PP.step]
    rw [if_neg (by simp), lits_back c (h c List.mem_cons_self)]
    simp only [Option.bind_some]
    rw [run_lines n t (done ++ [c]) (fun c hc => h c (List.mem_cons_of_mem _ hc))]
    simp
theorem lines_of_clauses : ∀ cl : List (List Int), linesOf (cl.flatMap lineL) = cl.map lineB
  | [] => rfl
  | c :: t => by
    rw [List.flatMap_cons, lineL_eq, List.append_assoc, List.singleton_append, linesOf_at _ _ (lineB_bytes c), lines_of_clauses t]
    rfl
theorem parse_back (n : Int) (cl : List (List Int)) (hv : validC n cl = true) (hn : n.natAbs < 10 ^ 18) (h : ∀ c ∈ cl, ∀ x ∈ c, x.natAbs < 10 ^ 18) : parseC (formatC n cl) = (n, cl, 0) := by
  have hf : formatC n cl = headB n cl.length ++ 10 :: cl.flatMap lineL := by
    unfold formatC fmtL
    rw [if_pos hv, headL_eq]
    simp
  have hrun : PP.run ⟨true, 0, []⟩ (linesOf (formatC n cl)) = some ⟨false, n, cl⟩ := by
    rw [hf, linesOf_at _ _ (headB_bytes n _), lines_of_clauses]
    simp only [PP.run, PP.step]
    rw [if_pos trivial, if_pos (head_words n _).1, (head_words n _).2, atoi_round n hn]
    simp only [Option.bind_some]
    exact run_lines n cl [] h
  unfold parseC
  rw [hrun]
  refine if_neg ?_
  rintro (h0 | h0)
  · rw [hf] at h0
    simp at h0
  · exact h0 rfl
theorem lits_le (l : List UInt8) : (lineLits l).length ≤ l.length + 2 := by
  rw [lineLits_len, words_len]
  have h3 := Plain.countB_le (toB l)
  have h4 : (toB l).size = l.length := rfl
  omega
theorem run_bound (m : Nat) : ∀ (ls : List (List UInt8)) (s r : PP), (∀ l ∈ ls, l.length ≤ m) → (∀ c ∈ s.cls, c.length ≤ m + 2) → PP.run s ls = some r → r.cls.length ≤ s.cls.length + ls.length ∧ ∀ c ∈ r.cls, c.length ≤ m + 2
  | [], s, r, _, hs, h => by
    simp only [PP.run, Option.some.injEq] at h
    subst h
    exact ⟨by simp, hs⟩
  | l :: t, s, r, hl, hs, h => by
    simp only [PP.run] at h
    obtain ⟨s', h1, h2⟩ := Option.bind_eq_some_iff.1 h
    have hb : s'.cls.length ≤ s.cls.length + 1 ∧ ∀ c ∈ s'.cls, c.length ≤ m + 2 := by
      unfold PP.step at h1
      split at h1
      · split at h1
        · injection h1 with h1
          subst h1
          exact ⟨by simp, hs⟩
        · cases h1
      · injection h1 with h1
        subst h1
        refine ⟨by simp, fun c hc => ?_⟩
        rcases List.mem_append.1 hc with hc | hc
        · exact hs c hc
        · rw [List.mem_singleton.1 hc]
          have := lits_le l
          have := hl l List.mem_cons_self
          omega
    have := run_bound m t s' r (fun l hl' => hl l (List.mem_cons_of_mem _ hl')) hb.2 h2
    refine ⟨?_, this.2⟩
    rw [List.length_cons]
    have := this.1
    have := hb.1
    omega
theorem parse_fine (text : List UInt8) (h : text.length ≤ 4294967296) : Fine (parseC text).2.1 := by
  unfold parseC
  cases hr : PP.run ⟨true, 0, []⟩ (linesOf text) with
  | none => exact ⟨Nat.zero_le _, by simp⟩
  | some s =>
    have hb := run_bound text.length (linesOf text) _ s (linesOf_line text) (by simp) hr
    have hl := linesOf_len text
    simp only
    split
    · exact ⟨Nat.zero_le _, by simp⟩
    · refine ⟨?_, fun c hc => ?_⟩
      · have := hb.1
        simp at this
        show s.cls.length ≤ _
        omega
      · have := hb.2 c hc
        omega
/-- What Parse answers is the error, or a formula whose text it is. -/
theorem parse_self (text : List UInt8) : parseC text = (0, [], 3) ∨ ((parseC text).2.2 = 0 ∧ formatC (parseC text).1 (parseC text).2.1 = text) := by
  unfold parseC
  cases hr : PP.run ⟨true, 0, []⟩ (linesOf text) with
  | none => exact .inl rfl
  | some s =>
    simp only
    by_cases h : text = [] ∨ formatC s.n s.cls ≠ text
    · rw [if_pos h]; exact .inl rfl
    · rw [if_neg h]
      refine .inr ⟨rfl, ?_⟩
      by_cases h2 : formatC s.n s.cls = text
      · exact h2
      · exact absurd (.inr h2) h
theorem format_nil (n : Int) (cl : List (List Int)) : formatC n cl = [] ↔ validC n cl = false := by
  unfold formatC
  cases h : validC n cl with
  | true => simp [fmtL, headL]
  | false => simp
theorem valid_small {n : Int} {cl : List (List Int)} (h : validC n cl = true) : n.natAbs < 10 ^ 18 ∧ ∀ c ∈ cl, ∀ x ∈ c, x.natAbs < 10 ^ 18 := by
  have h1 := (validC_iff n cl).1 h
  refine ⟨by have := h1.1; omega, fun c hc x hx => ?_⟩
  have h2 := ((clauseOk_iff n c).1 (h1.2 c hc)).2 x hx
  have := h1.1
  omega
theorem itoa_len (n : Int) (h : n.natAbs < 10 ^ 18) : (Lib.itoa n).length ≤ 21 := itoa_length_le n (by omega) (by omega)
theorem lineL_len : ∀ (c : List Int), (∀ x ∈ c, x.natAbs < 10 ^ 18) → (lineL c).length ≤ 22 * c.length + 2
  | [], _ => by decide
  | x :: t, h => by
    have ih := lineL_len t (fun y hy => h y (List.mem_cons_of_mem _ hy))
    have h1 := itoa_len x (h x List.mem_cons_self)
    have e : lineL (x :: t) = Lib.itoa x ++ 32 :: lineL t := by simp [lineL]
    rw [e, List.length_append, List.length_cons, List.length_cons]
    omega
theorem clauses_len : ∀ (cl : List (List Int)), (∀ c ∈ cl, ∀ x ∈ c, x.natAbs < 10 ^ 18) → (∀ c ∈ cl, c.length ≤ 30) → (cl.flatMap lineL).length ≤ 700 * cl.length
  | [], _, _ => by decide
  | c :: t, h, h2 => by
    have ih := clauses_len t (fun y hy => h y (List.mem_cons_of_mem _ hy)) (fun y hy => h2 y (List.mem_cons_of_mem _ hy))
    have h1 := lineL_len c (h c List.mem_cons_self)
    have h3 := h2 c List.mem_cons_self
    rw [List.flatMap_cons, List.length_append, List.length_cons]
    omega
theorem format_len (n : Int) (cl : List (List Int)) (h2 : ∀ c ∈ cl, c.length ≤ 30) (h3 : cl.length ≤ 40) : (formatC n cl).length < 4294967281 := by
  unfold formatC
  split
  · rename_i hv
    have hs := valid_small hv
    have h4 := clauses_len cl hs.2 h2
    have h5 := itoa_len n hs.1
    have h6 := itoa_len (cl.length : Int) (by omega)
    have h7 : (fmtL n cl).length = (Lib.itoa n).length + (Lib.itoa (cl.length : Int)).length + 8 + (cl.flatMap lineL).length := by
      simp [fmtL, headL]
      omega
    omega
  · decide
end Go.Proofs.YteaohgebocbehaaGreatDoor.Plain
end
section
/- CnfReturns: the walk. -/
set_option linter.unusedVariables false
set_option linter.unusedSimpArgs false
namespace Go.Proofs.YteaohgebocbehaaGreatDoor.Hand
open Go.RowKit Go.Lib Go.Shelf Go.Proofs.YteaohgebocbehaaGreatDoorW Go.Proofs.YteaohgebocbehaaGreatDoorW.PrintWords Go.Proofs.YteaohgebocbehaaGreatDoorW.PrintLast Go.Proofs.YteaohgebocbehaaGreatDoorW.PrintMore Go.Proofs.YteaohgebocbehaaGreatDoor.Plain Go.Proofs.YteaohgebocbehaaGreatDoor.XA
attribute [local go_sem] max2_int min2_int max_two min_two max_three min_three max_four min_four
theorem parse2_calls (t : List UInt8) (hs : t.length < 4294967281) (W : World) (hT : Tabs W) (r : Int × List (List Int) × Int) (hr : r = parseC t) :
    Calls Tryz.prog 26 #[.string (toB t)] W fun e w' => ∃ A c, e = .returned (.tuple #[.agg #[.int .i64 r.1, .slice A r.2.1.length c], .int .i64 r.2.2]) ∧ r.2.1.length ≤ c ∧ kL.C w' A r.2.1.length r.2.1 ∧ Below W.heap.size W w' := by
  subst hr
  refine (Parse_calls t hs W hT).mono ?_
  rintro e w' ⟨v, rfl, hN, hb⟩
  obtain ⟨A, c, rfl⟩ := Kd.N_slice hN
  exact ⟨A, c, rfl, (Kd.N_reads' hN).2.1, (Kd.N_reads' hN).2.2, hb⟩
theorem same2_calls (n : Int) (A A' : Option Addr) (c c' : Nat) (cl : List (List Int)) (W : World) (hr : kL.C W A cl.length cl) (hc : cl.length ≤ c) (hr' : kL.C W A' cl.length cl) (hc' : cl.length ≤ c') (hl : Fine cl) :
    Calls Tryz.prog 23 #[.agg #[.int .i64 n, .slice A cl.length c], .agg #[.int .i64 n, .slice A' cl.length c']] W fun e w' => e = .returned (.bool true) ∧ Below W.heap.size W w' := by
  have h := same_f n n cl cl (by have := hl.1; omega) (fun c hc => by have := hl.2 c hc; omega)
  rw [decide_eq_true rfl, decide_eq_true rfl] at h
  obtain ⟨k, h⟩ := h.rounds
  exact assessorref26_Same.calls k n A c cl n A' c' cl _ W hr hc hr' hc' h
set_option maxHeartbeats 16000000 in
set_option maxRecDepth 100000 in
theorem Returns_calls (n : Int) (A : Option Addr) (c : Nat) (cl : List (List Int)) (text : List UInt8) (w : World) (hr : kL.C w A cl.length cl) (hc : cl.length ≤ c) (hT : Tabs w) :
    Calls Tryz.prog 7 #[.agg #[.int .i64 n, .slice A cl.length c], .string (toB text)] w fun e w' => e = .returned (.bool true) ∧ Below w.heap.size w w' := by
  have hu24 := Tryz.underlying24
  have HT := Aside0.mk hT
  have HR := Aside0.mk hr
  have HC := Aside0.mk hc
  clear hT hr hc
  go_enter Tryz.func7, Tryz.ntmps7
  by_cases h1 : 40 < (cl.length : Int)
  · have d1 : decide (40 < (cl.length : Int)) = true := decide_eq_true h1
    clear h1
    go_wp2_with (first
      | ((with_reducible refine gate_dst (N := 2) rfl ?_); refine box_event ?hg (N := 2) ?hd (cs := #[.int .i64 n, .slice A cl.length c]) (t := 24) ?hr ?_; (case hd => rfl); (case hg => rfl); (case hr => first | (go_simp; done) | (go_simp; rfl)); intro g2 hg_ w2 h1_ h2_; have BK2 := Aside0.mk h1_; have HB2 := Aside0.mk h2_; have GEg2 := Aside0.mk hg_; clear h1_ h2_ hg_)
      | (go_at_call 10; refine (awake_calls w2 (HT.out.same HB2.out)).mono ?_; rintro e w3 ⟨rfl, hb⟩; have HL := Aside0.mk (LSt.later (⟨BK2.out, HB2.out⟩ : LSt w w2 g2 n A cl.length c) hb); have k0 := HL.out.cells.1; have k1 := HL.out.cells.2; clear hb))
    go_ret
    exact ⟨rfl, HL.out.below⟩
  have d1 : decide (40 < (cl.length : Int)) = false := decide_eq_false h1
  have H1 := Aside0.mk h1
  clear h1
  go_wp2_with (first
    | ((with_reducible refine gate_dst (N := 2) rfl ?_); refine box_event ?hg (N := 2) ?hd (cs := #[.int .i64 n, .slice A cl.length c]) (t := 24) ?hr ?_; (case hd => rfl); (case hg => rfl); (case hr => first | (go_simp; done) | (go_simp; rfl)); intro g2 hg_ w2 h1_ h2_; have BK2 := Aside0.mk h1_; have HB2 := Aside0.mk h2_; have GEg2 := Aside0.mk hg_; clear h1_ h2_ hg_)
    | (go_at_call 10; refine (awake_calls w2 (HT.out.same HB2.out)).mono ?_; rintro e w3 ⟨rfl, hb⟩; have HL := Aside0.mk (LSt.later (⟨BK2.out, HB2.out⟩ : LSt w w2 g2 n A cl.length c) hb); have k0 := HL.out.cells.1; have k1 := HL.out.cells.2; clear hb))
  refine (small_calls 0 0 40 A c cl w3 (Kd.C_below HR.out HL.out.below) HC.out (by have := H1.out; omega)).mono ?_
  rintro e w4 ⟨rfl, hb⟩
  have HL4 := Aside0.mk (HL.out.later hb)
  obtain ⟨k40, k41⟩ := HL4.out.cells
  clear hb k0 k1 BK2 HB2 HL
  obtain ⟨sm, hsm⟩ : ∃ b, b = smallC 0 cl 0 40 := ⟨_, rfl⟩
  rw [← hsm]
  have HSM := Aside0.mk hsm
  clear hsm
  cases sm with
  | false =>
    go_wp2
    go_ret
    exact ⟨rfl, HL4.out.below⟩
  | true =>
    by_cases h2 : 400 < (text.length : Int)
    · have d2 : decide (400 < ((toB text).size : Int)) = true := decide_eq_true h2
      clear h2
      go_wp2
      go_ret
      exact ⟨rfl, HL4.out.below⟩
    have d2 : decide (400 < ((toB text).size : Int)) = false := decide_eq_false h2
    have H2 := Aside0.mk h2
    clear h2
    have HF := Aside0.mk (show Fine cl from ⟨by have := H1.out; omega, fun c hc => by
      have h := HSM.out
      unfold smallC at h
      have h3 := (Bool.and_eq_true _ _).mp h.symm
      have := of_decide_eq_true (List.all_eq_true.1 h3.1 c hc)
      omega⟩)
    have HFM := Aside0.mk (Format_calls n A c cl w4 (Kd.C_below HR.out HL4.out.below) HC.out HF.out (HT.out.same HL4.out.below))
    obtain ⟨ft, hft⟩ : ∃ f, f = formatC n cl := ⟨_, rfl⟩
    rw [← hft] at HFM
    have HFT := Aside0.mk hft
    clear hft
    by_cases hv : validC n cl = true
    · have he : (toB ft).toList.isEmpty = false := by
        rw [toB_list, HFT.out]
        cases hx : formatC n cl with
        | nil => rw [(format_nil n cl).1 hx] at hv; cases hv
        | cons b t => rfl
      have hsm := HSM.out
      have h30 : ∀ c ∈ cl, c.length ≤ 30 := fun c hc => by
        unfold smallC at hsm
        exact of_decide_eq_true (List.all_eq_true.1 ((Bool.and_eq_true _ _).mp hsm.symm).1 c hc)
      have hs := valid_small hv
      have HLN := Aside0.mk (show ft.length < 4294967281 by rw [HFT.out]; exact format_len n cl h30 (by have := H1.out; omega))
      have HPB := Aside0.mk (show (n, cl, (0 : Int)) = parseC ft by rw [HFT.out]; exact (parse_back n cl hv hs.1 hs.2).symm)
      clear hv hsm h30 hs
      go_wp2_with (go_at_call 28; refine (show Calls Tryz.prog 28 #[.agg #[.int .i64 n, .slice A cl.length c]] w4 (fun e w' => e = .returned (.string (toB ft)) ∧ Below w4.heap.size w4 w') from HFM.out).mono ?_; rintro e w5 ⟨rfl, hb⟩; have HL5 := Aside0.mk (HL4.out.later hb); have k50 := HL5.out.cells.1; have k51 := HL5.out.cells.2; clear hb)
      refine (parse2_calls ft HLN.out w5 (HT.out.same HL5.out.below) (n, cl, 0) HPB.out).mono ?_
      rintro e w6 ⟨A6, c6, rfl, hc6, hr6, hb6⟩
      have HC6 := Aside0.mk (And.intro hc6 hr6)
      have HL60 := Aside0.mk (HL5.out.later hb6)
      clear hc6 hr6 hb6 k50 k51 HL5
      simp only at HC6 ⊢
      go_wp2_with (first
        | ((with_reducible refine gate_dst (N := 6) rfl ?_); refine box_event ?hg (N := 6) ?hd (cs := #[.int .i64 0, .slice none 0 0]) (t := 24) ?hr ?_; (case hd => rfl); (case hg => rfl); (case hr => first | (go_simp; done) | (go_simp; rfl)); intro g6 hg_ w61 h1_ h2_; have BK6 := Aside0.mk h1_; have HB6 := Aside0.mk h2_; have GEg6 := Aside0.mk hg_; clear h1_ h2_ hg_)
        | (((with_reducible refine gate_ (.store 24 (.tmp 6) (.tmp 35)) rfl ?_); refine st_box rfl rfl 24 (.tmp 6) (.tmp 35) rfl (g := g6) (T := 24) (cur := #[.int .i64 0, .slice none 0 0]) (u := .agg #[.int .i64 n, .slice A6 cl.length c6]) rfl rfl (BK6.out) size24 rfl (by simp [Value.cells, Value.oneCell']) ?_; intro w62 h1_ h2_; have BK62 := Aside0.mk h1_; have HG62 := Aside0.mk h2_; clear h1_ h2_); have HX62 := Aside0.mk (show Below w6.heap.size w6 w62 from below_grown HB6.out HB6.out.size HG62.out (by rw [GEg6.out]; exact Nat.le_refl _)); have HL62 := Aside0.mk (HL60.out.later HX62.out); have q0 : w62.cell? ⟨g6, 0, none⟩ = some (.int .i64 n) := (blk_cell BK62.out 0).trans rfl; have q1 : w62.cell? ⟨g6, 1, none⟩ = some (.slice A6 cl.length c6) := (blk_cell BK62.out 1).trans rfl; have q2 := HL62.out.cells.1; have q3 := HL62.out.cells.2))
      refine (same2_calls n A A6 c c6 cl w62 (Kd.C_below HR.out HL62.out.below) HC.out (Kd.C_below HC6.out.2 HX62.out) HC6.out.1 HF.out).mono ?_
      rintro e w6 ⟨rfl, hb⟩
      have HL6 := Aside0.mk (HL62.out.later hb)
      clear hb q0 q1 q2 q3 HL62 HX62 BK62 HG62 BK6 HB6 GEg6
      obtain ⟨r, hr⟩ : ∃ r, r = parseC text := ⟨_, rfl⟩
      have HPR := Aside0.mk (And.intro hr (parse2_calls text (by have := H2.out; omega) w6 (HT.out.same HL6.out.below) r hr))
      clear hr
      go_wp2_with (fail)
      refine HPR.out.2.mono ?_
      rintro e w7 ⟨A8, c8, rfl, hc8, hr8, hb8⟩
      have HL7 := Aside0.mk (HL6.out.later hb8)
      have HC8 := Aside0.mk (And.intro hc8 hr8)
      clear hc8 hr8 hb8
      obtain ⟨rn, rc, re⟩ := r
      simp only at HC8 ⊢
      rcases parse_self text with hp | ⟨hp1, hp2⟩
      · have hq := HPR.out.1.trans hp
        injection hq with hq1 hq
        injection hq with hq2 hq3
        subst hq1 hq2 hq3
        clear hp HPR
        go_wp2_with (first
          | ((with_reducible refine gate_dst (N := 8) rfl ?_); refine box_event ?hg (N := 8) ?hd (cs := #[.int .i64 0, .slice none 0 0]) (t := 24) ?hr ?_; (case hd => rfl); (case hg => rfl); (case hr => first | (go_simp; done) | (go_simp; rfl)); intro g8 hg_ w8 h1_ h2_; have BK8 := Aside0.mk h1_; have HB8 := Aside0.mk h2_; have GEg8 := Aside0.mk hg_; clear h1_ h2_ hg_)
          | (((with_reducible refine gate_ (.store 24 (.tmp 8) (.tmp 50)) rfl ?_); refine st_box rfl rfl 24 (.tmp 8) (.tmp 50) rfl (g := g8) (T := 24) (cur := #[.int .i64 0, .slice none 0 0]) (u := .agg #[.int .i64 0, .slice A8 0 c8]) rfl rfl (BK8.out) size24 rfl (by simp [Value.cells, Value.oneCell']) ?_; intro w9 h1_ h2_; have BK9 := Aside0.mk h1_; have HG9 := Aside0.mk h2_; clear h1_ h2_); have q0 : w9.cell? ⟨g8, 0, none⟩ = some (.int .i64 0) := (blk_cell BK9.out 0).trans rfl; have q1 : w9.cell? ⟨g8, 1, none⟩ = some (.slice A8 0 c8) := (blk_cell BK9.out 1).trans rfl; have HX9 := Aside0.mk (show Below w7.heap.size w7 w9 from below_grown HB8.out HB8.out.size HG9.out (by rw [GEg8.out]; exact Nat.le_refl _))))
        go_ret
        exact ⟨rfl, below_step HL7.out.below HX9.out⟩
      · have hr1 := HPR.out.1
        have hre : re = 0 := by rw [← hr1] at hp1; exact hp1
        have hfo : formatC rn rc = text := by rw [← hr1] at hp2; exact hp2
        have HFI : Aside0 (Fine rc) := ⟨by have h := parse_fine text (by have := H2.out; omega); rw [← hr1] at h; exact h⟩
        subst hre
        have HFO := Aside0.mk hfo
        clear hp1 hp2 hr1 hfo HPR
        have hqq : ((toB text).toList == (toB text).toList) = true := by simp
        go_wp2_with (first
          | ((with_reducible refine gate_dst (N := 8) rfl ?_); refine box_event ?hg (N := 8) ?hd (cs := #[.int .i64 0, .slice none 0 0]) (t := 24) ?hr ?_; (case hd => rfl); (case hg => rfl); (case hr => first | (go_simp; done) | (go_simp; rfl)); intro g8 hg_ w8 h1_ h2_; have BK8 := Aside0.mk h1_; have HB8 := Aside0.mk h2_; have GEg8 := Aside0.mk hg_; clear h1_ h2_ hg_)
          | (((with_reducible refine gate_ (.store 24 (.tmp 8) (.tmp 50)) rfl ?_); refine st_box rfl rfl 24 (.tmp 8) (.tmp 50) rfl (g := g8) (T := 24) (cur := #[.int .i64 0, .slice none 0 0]) (u := .agg #[.int .i64 rn, .slice A8 rc.length c8]) rfl rfl (BK8.out) size24 rfl (by simp [Value.cells, Value.oneCell']) ?_; intro w9 h1_ h2_; have BK9 := Aside0.mk h1_; have HG9 := Aside0.mk h2_; clear h1_ h2_); have q0 : w9.cell? ⟨g8, 0, none⟩ = some (.int .i64 rn) := (blk_cell BK9.out 0).trans rfl; have q1 : w9.cell? ⟨g8, 1, none⟩ = some (.slice A8 rc.length c8) := (blk_cell BK9.out 1).trans rfl; have HX9 := Aside0.mk (show Below w7.heap.size w7 w9 from below_grown HB8.out HB8.out.size HG9.out (by rw [GEg8.out]; exact Nat.le_refl _))))
        refine (show Calls Tryz.prog 28 #[.agg #[.int .i64 rn, .slice A8 rc.length c8]] w9 (fun e w' => e = .returned (.string (toB text)) ∧ Below w9.heap.size w9 w') from by rw [← HFO.out]; exact Format_calls rn A8 c8 rc w9 (Kd.C_below HC8.out.2 HX9.out) HC8.out.1 HFI.out (HT.out.same (below_step HL7.out.below HX9.out))).mono ?_
        rintro e w10 ⟨rfl, hb⟩
        have HB10 := Aside0.mk hb
        clear hb
        go_wp2
        go_ret
        exact ⟨rfl, below_step (below_step HL7.out.below HX9.out) HB10.out⟩
    · have hv' : validC n cl = false := by simpa using hv
      have he : (toB ft).toList.isEmpty = true := by rw [HFT.out, (format_nil n cl).2 hv']; simp [toB, ByteArray.toList_eq]
      have HV := Aside0.mk hv'
      clear hv hv'
      go_wp2_with (go_at_call 28; refine (show Calls Tryz.prog 28 #[.agg #[.int .i64 n, .slice A cl.length c]] w4 (fun e w' => e = .returned (.string (toB ft)) ∧ Below w4.heap.size w4 w') from HFM.out).mono ?_; rintro e w5 ⟨rfl, hb⟩; have HL5 := Aside0.mk (HL4.out.later hb); have k50 := HL5.out.cells.1; have k51 := HL5.out.cells.2; clear hb)
      refine (show Calls Tryz.prog 15 #[.agg #[.int .i64 n, .slice A cl.length c]] w5 (fun e w' => e = .returned (.bool false) ∧ Below w5.heap.size w5 w') from by rw [← HV.out]; exact Valid_calls n A c cl w5 (Kd.C_below HR.out HL5.out.below) HC.out HF.out).mono ?_
      rintro e w6 ⟨rfl, hb⟩
      have HL6 := Aside0.mk (HL5.out.later hb)
      clear hb k50 k51 HL5
      obtain ⟨r, hr⟩ : ∃ r, r = parseC text := ⟨_, rfl⟩
      have HPR := Aside0.mk (And.intro hr (parse2_calls text (by have := H2.out; omega) w6 (HT.out.same HL6.out.below) r hr))
      clear hr
      go_wp2_with (fail)
      refine HPR.out.2.mono ?_
      rintro e w7 ⟨A8, c8, rfl, hc8, hr8, hb8⟩
      have HL7 := Aside0.mk (HL6.out.later hb8)
      have HC8 := Aside0.mk (And.intro hc8 hr8)
      clear hc8 hr8 hb8
      obtain ⟨rn, rc, re⟩ := r
      simp only at HC8 ⊢
      rcases parse_self text with hp | ⟨hp1, hp2⟩
      · have hq := HPR.out.1.trans hp
        injection hq with hq1 hq
        injection hq with hq2 hq3
        subst hq1 hq2 hq3
        clear hp HPR
        go_wp2_with (first
          | ((with_reducible refine gate_dst (N := 8) rfl ?_); refine box_event ?hg (N := 8) ?hd (cs := #[.int .i64 0, .slice none 0 0]) (t := 24) ?hr ?_; (case hd => rfl); (case hg => rfl); (case hr => first | (go_simp; done) | (go_simp; rfl)); intro g8 hg_ w8 h1_ h2_; have BK8 := Aside0.mk h1_; have HB8 := Aside0.mk h2_; have GEg8 := Aside0.mk hg_; clear h1_ h2_ hg_)
          | (((with_reducible refine gate_ (.store 24 (.tmp 8) (.tmp 50)) rfl ?_); refine st_box rfl rfl 24 (.tmp 8) (.tmp 50) rfl (g := g8) (T := 24) (cur := #[.int .i64 0, .slice none 0 0]) (u := .agg #[.int .i64 0, .slice A8 0 c8]) rfl rfl (BK8.out) size24 rfl (by simp [Value.cells, Value.oneCell']) ?_; intro w9 h1_ h2_; have BK9 := Aside0.mk h1_; have HG9 := Aside0.mk h2_; clear h1_ h2_); have q0 : w9.cell? ⟨g8, 0, none⟩ = some (.int .i64 0) := (blk_cell BK9.out 0).trans rfl; have q1 : w9.cell? ⟨g8, 1, none⟩ = some (.slice A8 0 c8) := (blk_cell BK9.out 1).trans rfl; have HX9 := Aside0.mk (show Below w7.heap.size w7 w9 from below_grown HB8.out HB8.out.size HG9.out (by rw [GEg8.out]; exact Nat.le_refl _))))
        go_ret
        exact ⟨rfl, below_step HL7.out.below HX9.out⟩
      · have hr1 := HPR.out.1
        have hre : re = 0 := by rw [← hr1] at hp1; exact hp1
        have hfo : formatC rn rc = text := by rw [← hr1] at hp2; exact hp2
        have HFI : Aside0 (Fine rc) := ⟨by have h := parse_fine text (by have := H2.out; omega); rw [← hr1] at h; exact h⟩
        subst hre
        have HFO := Aside0.mk hfo
        clear hp1 hp2 hr1 hfo HPR
        have hqq : ((toB text).toList == (toB text).toList) = true := by simp
        go_wp2_with (first
          | ((with_reducible refine gate_dst (N := 8) rfl ?_); refine box_event ?hg (N := 8) ?hd (cs := #[.int .i64 0, .slice none 0 0]) (t := 24) ?hr ?_; (case hd => rfl); (case hg => rfl); (case hr => first | (go_simp; done) | (go_simp; rfl)); intro g8 hg_ w8 h1_ h2_; have BK8 := Aside0.mk h1_; have HB8 := Aside0.mk h2_; have GEg8 := Aside0.mk hg_; clear h1_ h2_ hg_)
          | (((with_reducible refine gate_ (.store 24 (.tmp 8) (.tmp 50)) rfl ?_); refine st_box rfl rfl 24 (.tmp 8) (.tmp 50) rfl (g := g8) (T := 24) (cur := #[.int .i64 0, .slice none 0 0]) (u := .agg #[.int .i64 rn, .slice A8 rc.length c8]) rfl rfl (BK8.out) size24 rfl (by simp [Value.cells, Value.oneCell']) ?_; intro w9 h1_ h2_; have BK9 := Aside0.mk h1_; have HG9 := Aside0.mk h2_; clear h1_ h2_); have q0 : w9.cell? ⟨g8, 0, none⟩ = some (.int .i64 rn) := (blk_cell BK9.out 0).trans rfl; have q1 : w9.cell? ⟨g8, 1, none⟩ = some (.slice A8 rc.length c8) := (blk_cell BK9.out 1).trans rfl; have HX9 := Aside0.mk (show Below w7.heap.size w7 w9 from below_grown HB8.out HB8.out.size HG9.out (by rw [GEg8.out]; exact Nat.le_refl _))))
        refine (show Calls Tryz.prog 28 #[.agg #[.int .i64 rn, .slice A8 rc.length c8]] w9 (fun e w' => e = .returned (.string (toB text)) ∧ Below w9.heap.size w9 w') from by rw [← HFO.out]; exact Format_calls rn A8 c8 rc w9 (Kd.C_below HC8.out.2 HX9.out) HC8.out.1 HFI.out (HT.out.same (below_step HL7.out.below HX9.out))).mono ?_
        rintro e w10 ⟨rfl, hb⟩
        have HB10 := Aside0.mk hb
        clear hb
        go_wp2
        go_ret
        exact ⟨rfl, below_step (below_step HL7.out.below HX9.out) HB10.out⟩
end Go.Proofs.YteaohgebocbehaaGreatDoor.Hand
end
