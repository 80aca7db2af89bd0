/- Functions of the given Go program as Lean functions, each with a proof that the machine's call answers so; conditions: the premises written in each. -/
import Derived.Test.YteaohgebocbehaaGreatDoorXAx0
import Derived.ChangeKeysEq
namespace Go.Proofs.YteaohgebocbehaaGreatDoor.XA
open Go.RowKit Go.Proofs.YteaohgebocbehaaGreatDoorW.PrintWords Go.Proofs.YteaohgebocbehaaGreatDoorW.PrintLast Go.Proofs.YteaohgebocbehaaGreatDoorW.PrintMore
attribute [local go_sem] max2_int min2_int max_two min_two max_three min_three max_four min_four   -- for this text's walks alone
set_option linter.unusedVariables false
set_option linter.unusedSimpArgs false

theorem eqA62 (d : Nat) (w : World) (x0 y0 : Int) (x1 y1 : Int) :
  (Op.equalIn (d + 2) 62 (.agg #[.int .i64 x0, .int .i64 x1]) (.agg #[.int .i64 y0, .int .i64 y1])).run Tryz.prog w = .ok (x0 == y0 && (x1 == y1)) w := by
 have e4 : (part 3 #[.int .i64 x0, .int .i64 x1] 0).run Tryz.prog w = .ok (.int .i64 x0) w := by go_simp
 have e5 : (part 3 #[.int .i64 x0, .int .i64 x1] 1).run Tryz.prog w = .ok (.int .i64 x1) w := by go_simp
 have e6 : (part 3 #[.int .i64 y0, .int .i64 y1] 0).run Tryz.prog w = .ok (.int .i64 y0) w := by go_simp
 have e7 : (part 3 #[.int .i64 y0, .int .i64 y1] 1).run Tryz.prog w = .ok (.int .i64 y1) w := by go_simp
 have e8 : ∀ a b : Int, (Op.equalIn (d + 1) 3 (.int .i64 a) (.int .i64 b)).run Tryz.prog w = .ok (a == b) w := fun a b => by simp [Op.equalIn, run_underlying (w := w) Tryz.underlying3]
 have e0 : ∃ i, Tryz.prog.info? 3 = some i := by
  cases h : Tryz.prog.info? 3 with
  | some i => exact ⟨i, rfl⟩
  | none => have := info3; rw [h] at this; exact absurd this (by simp)
 obtain ⟨i, hi⟩ := e0
 have ec : Tryz.prog.cellsOf 3 = 1 := by kernel_rfl
 rw [show d + 2 = (d + 1) + 1 from rfl, run_equalIn_array w (d + 1) _ _ Tryz.underlying62 hi, ec]
 simp only [List.range_succ, List.range_zero, List.nil_append, List.cons_append, Op.eqItems, Sem.run_bind, Nat.zero_mul, Nat.one_mul, e4, e5, e6, e7, e8, Result.andThen_ok]
 cases h0 : (x0 == y0) <;> cases h1 : (x1 == y1) <;> simp [e5, e7, e8, h1]
end Go.Proofs.YteaohgebocbehaaGreatDoor.XA
