/- Functions of the given Go program as Lean functions, each with a proof that the machine's call answers so; conditions: the premises written in each. -/
import Derived.Test.YtbehhijmcnoeeaaXAx0
import Derived.Test.YtbehhijmcnoeeaaXAx2
import Derived.Test.YtbehhijmcnoeeaaXAx3
import Derived.Test.YtbehhijmcnoeeaaXAx7
namespace Go.Proofs.Ytbehhijmcnoeeaa.XA
open Go.RowKit Go.Proofs.YtbehhijmcnoeeaaW.PrintWords Go.Proofs.YtbehhijmcnoeeaaW.PrintLast Go.Proofs.YtbehhijmcnoeeaaW.PrintMore
attribute [local go_sem] max2_int min2_int max_two min_two max_three min_three max_four min_four   -- for this text's walks alone
set_option linter.unusedVariables false
set_option linter.unusedSimpArgs false

/-! ### deadlines_Until_1 (function 37), deadlines_Until (function 22): by hand -/
section
/-- Between two rounds of Until: the policy's box and the percentage's box, and all that came in. -/
structure deadlines_Until.St (w W : World) (gp gq : Nat) (p : Array Value) (a1 : Int) : Prop where
 p : W.heap[gp]? = some (.cells p 24 (0, 0))
 q : W.heap[gq]? = some (.cells #[.int .i64 a1] 3 (0, 0))
 hp : w.heap.size ≤ gp
 hq : w.heap.size ≤ gq
 below : Below w.heap.size w W
theorem deadlines_Until.St.later {w W W' : World} {gp gq : Nat} {p : Array Value} {a1 : Int} (h : deadlines_Until.St w W gp gq p a1) (hb : Below W.heap.size W W') : deadlines_Until.St w W' gp gq p a1 :=
 ⟨blk_below h.p hb, blk_below h.q hb, h.hp, h.hq, h.below.trans (hb.mono h.below.size)⟩
theorem deadlines_Until.St.drew {w W : World} {gp gq : Nat} {p : Array Value} {a1 : Int} (h : deadlines_Until.St w W gp gq p a1) : deadlines_Until.St w W.drew gp gq p a1 :=
 ⟨h.p, h.q, h.hp, h.hq, h.below.drew⟩

/-- What the call of factor leaves, with the cells that the statement reads beside it. -/
theorem deadlines_Until.factor_at (k : Nat) (a0_0 : Int) (a0_1 : Int) (a0_2 : Bool) (A0_3 : Option Addr) (c0_3 : Nat) (l0_3 : List (S34)) (a1 t v : Int) (gp gq : Nat) (w W : World) (hr0_3 : Kd.C k34 w A0_3 l0_3.length l0_3) (hc0_3 : l0_3.length ≤ c0_3)
  (h : deadlines_factor.f k a0_0 a0_1 a0_2 l0_3 t = some v) (hS : Aside0 (deadlines_Until.St w W gp gq #[.int .i64 a0_0, .int .i64 a0_1, .bool a0_2, .slice A0_3 l0_3.length c0_3] a1)) :
  Calls Try.prog 31 #[.agg #[.int .i64 a0_0, .int .i64 a0_1, .bool a0_2, .slice A0_3 l0_3.length c0_3], .int .i64 t] W fun e W' => e = .returned (.int .i64 v) ∧
   W'.cell? ⟨gp, 0, none⟩ = some (.int .i64 a0_0) ∧ W'.cell? ⟨gp, 1, none⟩ = some (.int .i64 a0_1) ∧ W'.cell? ⟨gp, 2, none⟩ = some (.bool a0_2) ∧ W'.cell? ⟨gp, 3, none⟩ = some (.slice A0_3 l0_3.length c0_3) ∧
   W'.cell? ⟨gq, 0, none⟩ = some (.int .i64 a1) ∧ Aside0 (deadlines_Until.St w W' gp gq #[.int .i64 a0_0, .int .i64 a0_1, .bool a0_2, .slice A0_3 l0_3.length c0_3] a1) :=
 (deadlines_factor.calls k a0_0 a0_1 a0_2 A0_3 c0_3 l0_3 t v W (Kd.C_below hr0_3 hS.out.below) hc0_3 h).mono fun e W' ⟨he, hb⟩ => by
  have hS' := hS.out.later hb
  exact ⟨he, (blk_cell hS'.p 0).trans rfl, (blk_cell hS'.p 1).trans rfl, (blk_cell hS'.p 2).trans rfl, (blk_cell hS'.p 3).trans rfl, (blk_cell hS'.q 0).trans rfl, ⟨hS'⟩⟩

set_option maxHeartbeats 4000000 in
set_option maxRecDepth 100000 in
theorem deadlines_Until_1.calls (k : Nat) (a0_0 : Int) (a0_1 : Int) (a0_2 : Bool) (A0_3 : Option Addr) (c0_3 : Nat) (l0_3 : List (S34)) (a1 t v : Int) (gp gq : Nat) (w W : World) (hr0_3 : Kd.C k34 w A0_3 l0_3.length l0_3) (hc0_3 : l0_3.length ≤ c0_3)
  (h : deadlines_factor.f k a0_0 a0_1 a0_2 l0_3 t = some v) (hS : deadlines_Until.St w W gp gq #[.int .i64 a0_0, .int .i64 a0_1, .bool a0_2, .slice A0_3 l0_3.length c0_3] a1) (hb0 : 0 ≤ a1) (hb1 : a1 ≤ 100) :
  Calls Try.prog 37 #[.int .i64 t, .pointer (some ⟨gp, 0, none⟩), .pointer (some ⟨gq, 0, none⟩)] W fun e W' => e = .returned (.bool (decide (100 * a1 ≤ v))) ∧ deadlines_Until.St w W' gp gq #[.int .i64 a0_0, .int .i64 a0_1, .bool a0_2, .slice A0_3 l0_3.length c0_3] a1 := by
 have hu24 := Try.underlying24
 have HS := Aside0.mk hS
 have HR := Aside0.mk hr0_3
 have HC := Aside0.mk hc0_3
 have HF := Aside0.mk h
 have h0 : W.cell? ⟨gp, 0, none⟩ = some (.int .i64 a0_0) := (blk_cell hS.p 0).trans rfl
 have h1 : W.cell? ⟨gp, 1, none⟩ = some (.int .i64 a0_1) := (blk_cell hS.p 1).trans rfl
 have h2 : W.cell? ⟨gp, 2, none⟩ = some (.bool a0_2) := (blk_cell hS.p 2).trans rfl
 have h3 : W.cell? ⟨gp, 3, none⟩ = some (.slice A0_3 l0_3.length c0_3) := (blk_cell hS.p 3).trans rfl
 have h4 : W.cell? ⟨gq, 0, none⟩ = some (.int .i64 a1) := (blk_cell hS.q 0).trans rfl
 clear hS hr0_3 hc0_3 h
 go_enter Try.func37, Try.ntmps37
 go_wp2
 go_region_held3 (fun W' => W'.cell? ⟨gp, 0, none⟩ = some (.int .i64 a0_0) ∧ W'.cell? ⟨gp, 1, none⟩ = some (.int .i64 a0_1) ∧ W'.cell? ⟨gp, 2, none⟩ = some (.bool a0_2) ∧ W'.cell? ⟨gp, 3, none⟩ = some (.slice A0_3 l0_3.length c0_3) ∧
   W'.cell? ⟨gq, 0, none⟩ = some (.int .i64 a1) ∧ Aside0 (deadlines_Until.St w W' gp gq #[.int .i64 a0_0, .int .i64 a0_1, .bool a0_2, .slice A0_3 l0_3.length c0_3] a1)) (((try dsimp only); refine ⟨?_, ?_, ?_, ?_, ?_, ?_⟩ <;> first | assumption | exact ⟨HS.out.drew⟩))
  (first | (go_at_call 31; refine (deadlines_Until.factor_at k a0_0 a0_1 a0_2 A0_3 c0_3 l0_3 a1 t v gp gq w _ HR.out HC.out HF.out (by first | assumption | exact ⟨HS.out.drew⟩)).mono ?_; rintro e w' ⟨rfl, g0, g1, g2, g3, g4, g5⟩))
 all_goals
  have hw : IntKind.i64.wrap (100 * a1) = 100 * a1 := IntWalk.i64_in _ (by omega)
  rw [hw]
  clear hw
  go_wp2
  go_ret
  exact ⟨rfl, g5.out⟩

def deadlines_Until.enough (k : Nat) (a0_0 : Int) (a0_1 : Int) (a0_2 : Bool) (l0_3 : List (S34)) (a1 t : Int) : Option Bool := (deadlines_factor.f k a0_0 a0_1 a0_2 l0_3 t).bind fun v => some (decide (100 * a1 ≤ v))
def deadlines_Until.l0 : Nat → Int → Int → Bool → List (S34) → Int → Int → Int → Option (Int × Bool)
 | 0, _, _, _, _, _, _, _ => none
 | k + 1, a0_0, a0_1, a0_2, l0_3, a1, low, high => if high - low > 1 then (deadlines_Until.enough k a0_0 a0_1 a0_2 l0_3 a1 ((low + high) / 2)).bind fun b => (if b = true then deadlines_Until.l0 k a0_0 a0_1 a0_2 l0_3 a1 ((low + high) / 2) high else deadlines_Until.l0 k a0_0 a0_1 a0_2 l0_3 a1 low ((low + high) / 2)) else some (low, true)
def deadlines_Until.f (k : Nat) (a0_0 : Int) (a0_1 : Int) (a0_2 : Bool) (l0_3 : List (S34)) (a1 : Int) : Option (Int × Bool) := (deadlines_Valid.f k a0_0 a0_1 a0_2 l0_3).bind fun t1 => (if t1 = true then ((deadlines_isPercent.f a1).bind fun t2 => (if t2 = true then ((deadlines_Until.enough k a0_0 a0_1 a0_2 l0_3 a1 1099511627776).bind fun t3 => (if t3 = true then (some (0, false)) else (deadlines_Until.l0 k a0_0 a0_1 a0_2 l0_3 a1 0 1099511627776))) else (some (0, false)))) else (some (0, false)))
theorem deadlines_Until.mono_e (k : Nat) (a0_0 : Int) (a0_1 : Int) (a0_2 : Bool) (l0_3 : List (S34)) (a1 t : Int) : LeO (deadlines_Until.enough k a0_0 a0_1 a0_2 l0_3 a1 t) (deadlines_Until.enough (k + 1) a0_0 a0_1 a0_2 l0_3 a1 t) := by
 unfold deadlines_Until.enough
 exact LeO.bind (deadlines_factor.mono _ _ _ _ _ _) (fun _ => LeO.refl _)
theorem deadlines_Until.mono_l : ∀ k y0 y1 y2 y3 y4 y5 y6, LeO (deadlines_Until.l0 k y0 y1 y2 y3 y4 y5 y6) (deadlines_Until.l0 (k + 1) y0 y1 y2 y3 y4 y5 y6)
 | 0 => fun _ _ _ _ _ _ _ r h => by simp [deadlines_Until.l0] at h
 | k + 1 => by
  have ih0 := deadlines_Until.mono_l k
  intro y0 y1 y2 y3 y4 y5 y6
  rw [deadlines_Until.l0, deadlines_Until.l0]
  refine LeO.ite (LeO.bind (deadlines_Until.mono_e _ _ _ _ _ _ _) (fun _ => LeO.ite (ih0 _ _ _ _ _ _ _) (ih0 _ _ _ _ _ _ _))) (LeO.refl _)
theorem deadlines_Until.mono : ∀ a0 a1 a2 a3 a4 k, LeO (deadlines_Until.f k a0 a1 a2 a3 a4) (deadlines_Until.f (k + 1) a0 a1 a2 a3 a4) := by
 intro a0 a1 a2 a3 a4 k
 unfold deadlines_Until.f
 refine LeO.bind (deadlines_Valid.mono _ _ _ _ _) (fun _ => LeO.ite (LeO.bind (LeO.refl _) (fun _ => LeO.ite (LeO.bind (deadlines_Until.mono_e _ _ _ _ _ _ _) (fun _ => LeO.ite (LeO.refl _) (deadlines_Until.mono_l _ _ _ _ _ _ _ _))) (LeO.refl _))) (LeO.refl _))

set_option maxHeartbeats 8000000 in
set_option maxRecDepth 100000 in
theorem deadlines_Until.calls (k : Nat) (a0_0 : Int) (a0_1 : Int) (a0_2 : Bool) (A0_3 : Option Addr) (c0_3 : Nat) (l0_3 : List (S34)) (a1 : Int) (r1 : Int) (r2 : Bool) (w : World) (hr0_3 : Kd.C k34 w A0_3 l0_3.length l0_3) (hc0_3 : l0_3.length ≤ c0_3) (h : deadlines_Until.f k a0_0 a0_1 a0_2 l0_3 a1 = some (r1, r2)) :
  Calls Try.prog 22 #[.agg #[.int .i64 a0_0, .int .i64 a0_1, .bool a0_2, .slice A0_3 l0_3.length c0_3], .int .i64 a1] w fun e w' => e = .returned (.tuple #[.int .i64 r1, .bool r2]) ∧ Below w.heap.size w w' := by
 have hu24 := Try.underlying24
 have HR := Aside0.mk hr0_3
 have HC := Aside0.mk hc0_3
 clear hr0_3 hc0_3
 unfold deadlines_Until.f at h
 obtain ⟨t1, A1, h⟩ := Option.bind_eq_some_iff.mp h
 have HV := Aside0.mk A1
 clear A1
 have HW0 : Aside0 (deadlines_Until.St w ((w.alloc (.cells #[.int .i64 a0_0, .int .i64 a0_1, .bool a0_2, .slice A0_3 l0_3.length c0_3] 24)).alloc (.cells #[.int .i64 a1] 3)) w.heap.size (w.heap.size + 1) #[.int .i64 a0_0, .int .i64 a0_1, .bool a0_2, .slice A0_3 l0_3.length c0_3] a1) := ⟨by
  refine ⟨blk_alloc (blk_new _ _) _, ?_, Nat.le_refl _, by omega, ((Below.refl _ _).alloc (Nat.le_refl _) _).alloc (by simp) _⟩
  have := blk_new (w.alloc (.cells #[.int .i64 a0_0, .int .i64 a0_1, .bool a0_2, .slice A0_3 l0_3.length c0_3] 24)) (.cells #[.int .i64 a1] 3)
  simpa using this⟩
 cases t1 with
 | false =>
  have h' := h
  simp only [Bool.false_eq_true, if_false, Option.some.injEq, Prod.mk.injEq] at h'
  obtain ⟨rfl, rfl⟩ := h'
  clear h
  go_enter Try.func22, Try.ntmps22
  go_wp2_with (go_at_call 12; refine (deadlines_Valid.calls k a0_0 a0_1 a0_2 A0_3 c0_3 l0_3 false _ (Kd.C_below HR.out HW0.out.below) HC.out HV.out).mono ?_; rintro e w1 ⟨rfl, hb1⟩; have HB1 := Aside0.mk hb1; clear hb1)
  go_ret2
  exact ⟨rfl, HW0.out.below.trans (HB1.out.mono HW0.out.below.size)⟩
 | true =>
  rw [if_pos rfl] at h
  obtain ⟨t2, A2, h⟩ := Option.bind_eq_some_iff.mp h
  have HP := Aside0.mk A2
  have hbd : t2 = true → 0 ≤ a1 ∧ a1 ≤ 100 := by
   rintro rfl
   unfold deadlines_isPercent.f at A2
   split at A2
   ·simp at A2; omega
   ·simp at A2
  clear A2
  cases t2 with
  | false =>
   have h' := h
   simp only [Bool.false_eq_true, if_false, Option.some.injEq, Prod.mk.injEq] at h'
   obtain ⟨rfl, rfl⟩ := h'
   clear h hbd
   go_enter Try.func22, Try.ntmps22
   go_wp2_with (first
    | (go_at_call 12; refine (deadlines_Valid.calls k a0_0 a0_1 a0_2 A0_3 c0_3 l0_3 true _ (Kd.C_below HR.out HW0.out.below) HC.out HV.out).mono ?_; rintro e w1 ⟨rfl, hb1⟩; have HS1 := Aside0.mk (HW0.out.later hb1); have hcq := (blk_cell HS1.out.q 0).trans rfl; clear hb1)
    | (go_at_call 32; refine (deadlines_isPercent.calls a1 false _ HP.out).mono ?_; rintro e w2 ⟨rfl, ⟨nd, rfl⟩⟩))
   go_ret2
   exact ⟨rfl, HS1.out.below.trans ((Drawn0.mk ⟨nd, rfl⟩ : Drawn0 w1 _).below.mono HS1.out.below.size)⟩
  | true =>
   rw [if_pos rfl] at h
   obtain ⟨h0, h1⟩ := hbd rfl
   clear hbd
   obtain ⟨t3, A3, h⟩ := Option.bind_eq_some_iff.mp h
   unfold deadlines_Until.enough at A3
   obtain ⟨v3, A3, h3⟩ := Option.bind_eq_some_iff.mp A3
   have HF3 := Aside0.mk A3
   have H3 := Aside0.mk (Option.some.inj h3)
   clear A3 h3
   cases t3 with
   | true =>
    have h' := h
    simp only [if_true, Option.some.injEq, Prod.mk.injEq] at h'
    obtain ⟨rfl, rfl⟩ := h'
    clear h
    go_enter Try.func22, Try.ntmps22
    go_wp2_with (first
     | (go_at_call 12; refine (deadlines_Valid.calls k a0_0 a0_1 a0_2 A0_3 c0_3 l0_3 true _ (Kd.C_below HR.out HW0.out.below) HC.out HV.out).mono ?_; rintro e w1 ⟨rfl, hb1⟩; have HS1 := Aside0.mk (HW0.out.later hb1); have hcq := (blk_cell HS1.out.q 0).trans rfl; clear hb1)
     | (go_at_call 32; refine (deadlines_isPercent.calls a1 true _ HP.out).mono ?_; rintro e w2 ⟨rfl, ⟨nd, rfl⟩⟩; have HS2 := Aside0.mk (HS1.out.later (Drawn0.mk ⟨nd, rfl⟩ : Drawn0 w1 (w1.drewN nd)).below))
     | (go_at_call 37; refine (deadlines_Until_1.calls k a0_0 a0_1 a0_2 A0_3 c0_3 l0_3 a1 _ v3 _ _ w _ HR.out HC.out HF3.out HS2.out h0 h1).mono ?_; rintro e w3 ⟨rfl, hs3⟩; have HS3 := Aside0.mk hs3; clear hs3; rw [H3.out]))
    go_ret2
    exact ⟨rfl, HS3.out.below⟩
   | false =>
    rw [if_neg (by decide)] at h
    have HL := Aside0.mk h
    clear h
    go_enter Try.func22, Try.ntmps22
    go_wp2_with (first
     | (go_at_call 12; refine (deadlines_Valid.calls k a0_0 a0_1 a0_2 A0_3 c0_3 l0_3 true _ (Kd.C_below HR.out HW0.out.below) HC.out HV.out).mono ?_; rintro e w1 ⟨rfl, hb1⟩; have HS1 := Aside0.mk (HW0.out.later hb1); have hcq := (blk_cell HS1.out.q 0).trans rfl; clear hb1)
     | (go_at_call 32; refine (deadlines_isPercent.calls a1 true _ HP.out).mono ?_; rintro e w2 ⟨rfl, ⟨nd, rfl⟩⟩; have HS2 := Aside0.mk (HS1.out.later (Drawn0.mk ⟨nd, rfl⟩ : Drawn0 w1 (w1.drewN nd)).below))
     | (go_at_call 37; refine (deadlines_Until_1.calls k a0_0 a0_1 a0_2 A0_3 c0_3 l0_3 a1 _ v3 _ _ w _ HR.out HC.out HF3.out HS2.out h0 h1).mono ?_; rintro e w3 ⟨rfl, hs3⟩; have HS3 := Aside0.mk hs3; clear hs3; rw [H3.out]))
    go_loopw [7, 8] (fun lo hi wr => ∃ (kq : Nat) (low high : Int), 0 ≤ low ∧ low ≤ high ∧ high ≤ 1099511627776 ∧ lo = .int .i64 low ∧ hi = .int .i64 high ∧ Aside0 (deadlines_Until.l0 kq a0_0 a0_1 a0_2 l0_3 a1 low high = some (r1, r2)) ∧ Aside0 (deadlines_Until.St w wr w.heap.size (w.heap.size + 1) #[.int .i64 a0_0, .int .i64 a0_1, .bool a0_2, .slice A0_3 l0_3.length c0_3] a1)) (fun lo hi _ => (intOf hi - intOf lo).toNat)
    case atStart => exact ⟨k, 0, 1099511627776, by omega, by omega, by omega, rfl, rfl, HL, HS3⟩
    case round =>
     obtain ⟨kq, low, high, b0, b1, b2, rfl, rfl, HL1, HS4⟩ := hrel
     clear HS3 HS2 HS1 hcq
     cases kq with
     | zero => exact absurd HL1.out (by simp [deadlines_Until.l0])
     | succ kq =>
      have h := HL1.out
      rw [deadlines_Until.l0] at h
      clear HL1
      by_cases hgt : high - low > 1
      ·rw [if_pos hgt] at h
       obtain ⟨t4, A4, h⟩ := Option.bind_eq_some_iff.mp h
       unfold deadlines_Until.enough at A4
       obtain ⟨v4, A4, h4⟩ := Option.bind_eq_some_iff.mp A4
       have HF4 := Aside0.mk A4
       have H4 := Aside0.mk (Option.some.inj h4)
       clear A4 h4
       cases t4 with
       | true =>
        rw [if_pos rfl] at h
        have HL2 := Aside0.mk h
        clear h
        go_wp2_with (go_at_call 37; refine (deadlines_Until_1.calls kq a0_0 a0_1 a0_2 A0_3 c0_3 l0_3 a1 _ v4 _ _ w _ HR.out HC.out HF4.out HS4.out h0 h1).mono ?_; rintro e w5 ⟨rfl, hs5⟩; have HS5 := Aside0.mk hs5; clear hs5; rw [H4.out])
        go_roundw
        case rel => exact ⟨kq, (low + high) / 2, high, by omega, by omega, by omega, rfl, rfl, HL2, HS5⟩
        case measure => simp [intOf]; omega
       | false =>
        rw [if_neg (by decide)] at h
        have HL2 := Aside0.mk h
        clear h
        go_wp2_with (go_at_call 37; refine (deadlines_Until_1.calls kq a0_0 a0_1 a0_2 A0_3 c0_3 l0_3 a1 _ v4 _ _ w _ HR.out HC.out HF4.out HS4.out h0 h1).mono ?_; rintro e w5 ⟨rfl, hs5⟩; have HS5 := Aside0.mk hs5; clear hs5; rw [H4.out])
        go_roundw
        case rel => exact ⟨kq, low, (low + high) / 2, by omega, by omega, by omega, rfl, rfl, HL2, HS5⟩
        case measure => simp [intOf]; omega
      ·rw [if_neg hgt] at h
       simp only [Option.some.injEq, Prod.mk.injEq] at h
       obtain ⟨rfl, rfl⟩ := h
       go_wp2
       go_ret2
       exact ⟨rfl, HS4.out.below⟩
end

end Go.Proofs.Ytbehhijmcnoeeaa.XA
