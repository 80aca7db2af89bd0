/- The row of the law DeadlinesFactors, for every input and without a condition: out of what its code computes (its .calls theorem) and of the plain law that this is true (Pure.DeadlinesFactors). -/
import Derived.Test.YtbehhijmcnoeeaaRows
import Derived.Test.YtbehhijmcnoeeaaXAx27
import Derived.Test.YtbehhijmcnoeeaaPureDeadlinesFactors
import Derived.Test.YtbehhijmcnoeeaaKinds
import Derived.WalkKit
import Derived.ProofKit
import Derived.OpenShut
import Derived.ShutString
import Derived.ChangeOld
import Derived.Below
import Derived.SizedLaws
import Derived.Lib.SmallJoins
namespace Go.Proofs.Ytbehhijmcnoeeaa.deadlinesFactors
open Go.ChangeShapes Go.WideShapes Go.ChangeAt Go.RowKit Go.Proofs.Ytbehhijmcnoeeaa.Opens Go.Proofs.Ytbehhijmcnoeeaa.XA
open Go.ChangeMaps (open_string shut_string)
set_option linter.unusedVariables false
theorem own : ownKnob Try.prog.godebug = none := by kernel_rfl
theorem laidOut : laidOutB Try.prog = true := by kernel_rfl
set_option maxRecDepth 100000 in
set_option maxHeartbeats 1000000 in
theorem lifted (os : Os) (started : os.Started) (H : Type) (enc : TypeId × Value → H) :
    ReturnsInHanded {} Try.checked os 9 .any (Rows.deadlinesFactorsSpec.pre6 enc Try.prog Try.f9 Rows.deadlinesFactorsRow.domain false) (Rows.deadlinesFactorsSpec.post enc Try.prog Try.f9 false true false false) := by
  refine returnsInHanded_of_change_sized (C := Try.checked) own started (by kernel_rfl) Try.func9
    (ChangeSpec.witness6 (enc := enc) (C := Try.checked) false ⟨#[], #[.agg #[.int .i64 0, .int .i64 0, .bool false, .slice none 0 0], .int .i64 0, .int .i64 0, .slice none 0 0, .int .i64 0], []⟩ 8 (by kernel_rfl) (by kernel_rfl) (by kernel_rfl) (by kernel_rfl)) ?_
  intro W base args ds gs before hval0 hW hcnd hsz0 _
  have hsz : (DataW.weightsEach Try.prog (Try.f9.params.toList ++ Rows.deadlinesFactorsSpec.plain.varTypes Try.prog) (ds ++ gs)).all (· ≤ reachBytes) = true := hsz0
  have hval : ∀ (j : Nat) t v, Try.f9.params[j]? = some t → args[j]? = some v → Value.okWide Try.prog W .any base t v := hval0
  have hW' := hW
  obtain ⟨p, q, hA0, hV, rfl, hfz, hnd⟩ := hW
  have hA : DataW.TrodAll enc Try.prog W 0 (fun _ => true) true Try.f9.params.toList args.toList ds p := hA0
  rw [Try.params9] at hA hval hsz
  obtain ⟨v0, vs0, d0, ds0, p0, q0, hargs, rfl, rfl, h0, r0⟩ := trodAll_cons hA
  obtain ⟨v1, vs1, d1, ds1, p1, q1, rfl, rfl, rfl, h1, r1⟩ := trodAll_cons r0
  obtain ⟨v2, vs2, d2, ds2, p2, q2, rfl, rfl, rfl, h2, r2⟩ := trodAll_cons r1
  obtain ⟨v3, vs3, d3, ds3, p3, q3, rfl, rfl, rfl, h3, r3⟩ := trodAll_cons r2
  obtain ⟨v4, vs4, d4, ds4, p4, q4, rfl, rfl, rfl, h4, r4⟩ := trodAll_cons r3
  obtain ⟨rfl, rfl, rfl⟩ := trodAll_nil r4
  obtain rfl : args = #[v0, v1, v2, v3, v4] := by cases args; simp_all
  obtain ⟨rfl, rfl⟩ := trodVars_none hV
  have k0 := h0
  obtain ⟨v0_0, v0_1, v0_2, v0_3, y0_0, y0_1, y0_2, y0_3, _, rfl, _, _, e0_0, e0_1, e0_2, e0_3⟩ := Go.Joins.open_agg4 Try.underlying24 (by kernel_rfl) (by kernel_rfl) (hval 0 24 v0 rfl rfl) h0
  obtain ⟨a0_0, g0_0, _, w0_0⟩ := DataW.trod_int Try.underlying3 e0_0
  simp only [List.cons.injEq, and_true] at g0_0
  subst g0_0
  obtain ⟨a0_1, g0_1, _, w0_1⟩ := DataW.trod_int Try.underlying3 e0_1
  simp only [List.cons.injEq, and_true] at g0_1
  subst g0_1
  obtain ⟨a0_2, g0_2, _⟩ := DataW.trod_bool Try.underlying4 e0_2
  simp only [List.cons.injEq, and_true] at g0_2
  subst g0_2
  obtain ⟨l0_3, ⟨A0_3, c0_3, g0_3, hc0_3, hr0_3⟩, w0_3⟩ := (opens_slice Try.underlying22 (by kernel_rfl) o34).opens e0_3
  simp only [List.cons.injEq, and_true] at g0_3
  subst g0_3
  clear e0_0 e0_1 e0_2 e0_3
  obtain ⟨a1, rfl, rfl, rfl, w1⟩ := open_int Try.underlying3 (hval 1 3 v1 rfl rfl) h1
  obtain ⟨a2, rfl, rfl, rfl, w2⟩ := open_int Try.underlying3 (hval 2 3 v2 rfl rfl) h2
  obtain ⟨A3, len3, c3, rfl⟩ := okWide_slice Try.underlying44 (hval 3 44 v3 rfl rfl)
  have k3 := h3
  obtain ⟨l3, rfl, hc3, hr3, w3⟩ := row_arg Try.underlying44 (opens_int Try.underlying3 (by kernel_rfl)) h3
  obtain ⟨a4, rfl, rfl, rfl, w4⟩ := open_int Try.underlying3 (hval 4 3 v4 rfl rfl) h4
  clear hA0 hval0 hsz0 hsz
  obtain ⟨k, hk⟩ := Pure.DeadlinesFactors a0_0 a0_1 a0_2 l0_3 a1 a2 l3 a4 
  refine (assessorlaw51_DeadlinesFactors.calls k a0_0 a0_1 a0_2 A0_3 c0_3 l0_3 a1 a2 A3 c3 l3 a4 true W hr0_3 hc0_3 hr3 hc3 hk).mono fun e W' ⟨he, bel⟩ => ?_
  subst he
  exact ⟨_, rfl, _, _, _, [], _, [], hW', trodAll_mk1 (shut_bool Try.underlying4 _), (trodAll_cons_mk (Below.trod laidOut (by kernel_rfl) (of_decide_eq_true (by kernel_rfl)) k0 bel (trod_blocks k0)) (trodAll_cons_mk (shut_int Try.underlying3 w1) (trodAll_cons_mk (shut_int Try.underlying3 w2) (trodAll_cons_mk (Below.trod laidOut (by kernel_rfl) (of_decide_eq_true (by kernel_rfl)) k3 bel (trod_blocks k3)) (trodAll_cons_mk (shut_int Try.underlying3 w4) trodAll_mk0))))), rfl, bel.frame _, fun h => by cases h⟩
theorem over : Rows.deadlinesFactorsRow.holds Try.pinned (OpenSpec.ofChange Rows.deadlinesFactorsSpec) :=
  OpenClaim.holds_of_wide 9 Try.f9 rfl rfl rfl rfl rfl rfl rfl ⟨rfl, rfl, rfl, rfl, rfl⟩ rfl rfl rfl rfl rfl (by kernel_rfl) Try.func9 (by kernel_rfl)
    (of_decide_eq_true (by kernel_rfl)) (by unfold Func.isWrapper; first | (rw [if_pos (by decide +kernel)]; kernel_rfl) | (rw [if_neg (by decide +kernel)]; exact ⟨rfl, rfl⟩))
    (fun os started H enc _ => lifted os started H enc)
theorem proved : Rows.DeadlinesFactorsSaid := over
end Go.Proofs.Ytbehhijmcnoeeaa.deadlinesFactors
namespace Go.Proofs.Ytbehhijmcnoeeaa
/-- The row, under a short name, for the claim. -/
theorem deadlinesFactors_holds : Rows.DeadlinesFactorsSaid := deadlinesFactors.proved
#print axioms deadlinesFactors_holds
end Go.Proofs.Ytbehhijmcnoeeaa
