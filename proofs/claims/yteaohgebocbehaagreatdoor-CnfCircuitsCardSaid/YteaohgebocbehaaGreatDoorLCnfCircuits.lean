/- The row of the law CnfCircuits and its tied card, for every input and without a condition: out of what its code computes, at a world in which the library's listed variables hold what the program's text lays. -/
import Derived.Test.YteaohgebocbehaaGreatDoorHC0
import Derived.Test.YteaohgebocbehaaGreatDoorHC1
import Derived.Test.YteaohgebocbehaaGreatDoorHCnfCircuits0
import Derived.Test.YteaohgebocbehaaGreatDoorTie
import Derived.Test.YteaohgebocbehaaGreatDoorCards
import Derived.Deep.DeepHandedRow
import Derived.Deep.DeepWitnessRowRef
import Derived.JoinedCond
import Derived.WalkKit
import Derived.ProofKit
import Derived.OpenShut
import Derived.ShutString
import Derived.ChangeOld
import Derived.Below
import Derived.SizedLaws
import Derived.Lib.SmallJoins
import Derived.SevenTiedAt
namespace Go.Proofs.YteaohgebocbehaaGreatDoor.cnfCircuits
open Go.ChangeShapes Go.WideShapes Go.ChangeAt Go.RowKit Go.Proofs.YteaohgebocbehaaGreatDoor.Opens Go.Proofs.YteaohgebocbehaaGreatDoor.Hand Go.Proofs.YteaohgebocbehaaGreatDoor.Plain
open Go.ChangeMaps (open_string shut_string)
set_option linter.unusedVariables false
set_option maxRecDepth 1000000 in
theorem witness (os : Os) {H : Type} (enc : TypeId × Value → H) :
    (OpenSpec.ofChange Rows.cnfCircuitsSpec).preRow enc Tryz.prog Tryz.f9 Rows.cnfCircuitsRow.domain false Rows.cnfCircuitsRow.laid ((Door.laidWorld os).forCall (fun _ _ => 0) ⟨#[], #[.agg #[.int .i64 0, .slice none 0 0], .slice none 0 0, .slice none 0 0], []⟩).memory #[.agg #[.int .i64 0, .slice none 0 0], .slice none 0 0, .slice none 0 0] :=
  OpenSpec.preRow_of_B rfl 8 (by kernel_rfl) (by kernel_rfl) (Door.door_met os _)
set_option maxRecDepth 1000000 in
set_option maxHeartbeats 2000000 in
theorem lifted (os : Os) (started : os.Started) (H : Type) (enc : TypeId × Value → H) (F : Stop.Interp) :
    ReturnsInHanded {} Tryz.checked os 9 .any ((OpenSpec.ofChange Rows.cnfCircuitsSpec).preRow enc Tryz.prog Tryz.f9 Rows.cnfCircuitsRow.domain false Rows.cnfCircuitsRow.laid) (((OpenSpec.ofChange Rows.cnfCircuitsSpec).at F).post enc Tryz.prog Tryz.f9 false true false false) := by
  refine returnsInHanded_of_row (C := Tryz.checked) (s := OpenSpec.ofChange Rows.cnfCircuitsSpec) Door.own started (by kernel_rfl) Tryz.func9
    (witness_row_atRef (enc := enc) (C := Tryz.checked) false (Door.laidWorld os) #[.agg #[.int .i64 0, .slice none 0 0], .slice none 0 0, .slice none 0 0] rfl (by kernel_rfl) (by kernel_rfl) (by kernel_rfl) (witness os enc)) ?_
  intro W base args ds gs before hval0 hW hcnd _ hsz0 hL hS _
  have hT : Tabs W := Door.tabs hL hS
  clear hL hS hsz0
  have hval : ∀ (j : Nat) t v, Tryz.f9.params[j]? = some t → args[j]? = some v → Value.okWide Tryz.prog W .any base t v := hval0
  have hW' := hW
  obtain ⟨p, q, hA0, hV, rfl, hfz, hnd⟩ := hW
  have hA : DataW.TrodAll enc Tryz.prog W 0 (fun _ => true) true Tryz.f9.params.toList args.toList ds p := hA0
  rw [Tryz.params9] at hA hval
  obtain ⟨v0, vs0, d0, ds0, p0, q0, hargs, rfl, rfl, h0, r0⟩ := trodAll_cons hA
  obtain ⟨v1, vs1, d1, ds1, p1, q1, rfl, rfl, rfl, h1, r1⟩ := trodAll_cons r0
  obtain ⟨v2, vs2, d2, ds2, p2, q2, rfl, rfl, rfl, h2, r2⟩ := trodAll_cons r1
  obtain ⟨rfl, rfl, rfl⟩ := trodAll_nil r2
  obtain rfl : args = #[v0, v1, v2] := by cases args; simp_all
  obtain ⟨rfl, rfl⟩ := trodVars_none hV
  have k0 := h0
  obtain ⟨v0_0, v0_1, y0_0, y0_1, _, rfl, _, _, e0_0, e0_1⟩ := Go.Joins.open_agg2 Tryz.underlying38 (by kernel_rfl) (by kernel_rfl) (hval 0 38 v0 rfl rfl) h0
  obtain ⟨a0_0, g0_0, _, w0_0⟩ := DataW.trod_int Tryz.underlying3 e0_0
  simp only [List.cons.injEq, and_true] at g0_0
  subst g0_0
  obtain ⟨l0_1, ⟨A0_1, c0_1, g0_1, hc0_1, hr0_1⟩, w0_1⟩ := (opens_slice Tryz.underlying36 (by kernel_rfl) o62).opens e0_1
  simp only [List.cons.injEq, and_true] at g0_1
  subst g0_1
  clear e0_0 e0_1
  obtain ⟨A1, len1, c1, rfl⟩ := okWide_slice Tryz.underlying25 (hval 1 25 v1 rfl rfl)
  have k1 := h1
  obtain ⟨l1, rfl, hc1, hr1, w1⟩ := row_arg Tryz.underlying25 (opens_int Tryz.underlying3 (by kernel_rfl)) h1
  obtain ⟨A2, len2, c2, rfl⟩ := okWide_slice Tryz.underlying56 (hval 2 56 v2 rfl rfl)
  have k2 := h2
  obtain ⟨l2, rfl, hc2, hr2, w2⟩ := row_arg Tryz.underlying56 (opens_bool Tryz.underlying4 (by kernel_rfl)) h2
  clear hA0 hval0
  refine (Circuits_calls a0_0 A0_1 c0_1 l0_1 A1 c1 l1 A2 c2 l2 W hr0_1 hc0_1 hr1 hc1 hr2 hc2 hT).mono fun e W' ⟨he, bel⟩ => ?_
  subst he
  exact ⟨_, rfl, _, _, _, [], _, [], hW', trodAll_mk1 (shut_bool Tryz.underlying4 _), (trodAll_cons_mk (Below.trod Door.laidOut (by kernel_rfl) (of_decide_eq_true (by kernel_rfl)) k0 bel (trod_blocks k0)) (trodAll_cons_mk (Below.trod Door.laidOut (by kernel_rfl) (of_decide_eq_true (by kernel_rfl)) k1 bel (trod_blocks k1)) (trodAll_cons_mk (Below.trod Door.laidOut (by kernel_rfl) (of_decide_eq_true (by kernel_rfl)) k2 bel (trod_blocks k2)) trodAll_mk0))), rfl, bel.frame _, fun h => by cases h⟩
theorem over : Rows.CnfCircuitsSaid :=
  OpenClaim.holds_of_cond 9 Tryz.f9 rfl rfl rfl rfl rfl rfl rfl ⟨rfl, rfl, rfl, rfl, rfl⟩ rfl rfl rfl rfl rfl (by kernel_rfl) Tryz.func9 (by kernel_rfl)
    (of_decide_eq_true (by kernel_rfl)) (by unfold Func.isWrapper; first | (rw [if_pos (by decide +kernel)]; kernel_rfl) | (rw [if_neg (by decide +kernel)]; exact ⟨rfl, rfl⟩))
    (fun os started H enc _ F => by rw [OpenClaim.pre_eq_preRow]; exact lifted os started H enc F)
theorem card_holds : Rows.CnfCircuitsCardSaid :=
  Claim7.holds_tied_plain_at .later [] [.data, .data, .data, .data, .sentinel, .sentinel, .pinned] true (true, "3e1de01fa9f213e95b02636ce79036f3b0f944308c75edf4e3caf914449f61d4") true
    over (fun _ h => by cases h) (by kernel_rfl) (fun _ h => by cases h) cnfCircuits_row_tie rfl ⟨rfl, rfl⟩ (by kernel_rfl) rfl
    (fun f fn hf hfn => by
      obtain rfl : f = 9 := Option.some.inj ((show Tryz.prog.funcNamed "assessor/assessorlaw26.CnfCircuits" = some 9 by kernel_rfl).symm.trans hf) |>.symm
      obtain rfl : fn = Tryz.f9 := (Option.some.inj (Tryz.func9.symm.trans hfn)).symm
      exact ⟨by kernel_rfl, fun j t ht => by
        rw [Tryz.params9] at ht
        have hm : t ∈ [38, 25, 56] := by simpa using Array.mem_of_getElem? ht
        have hall : ([38, 25, 56].all fun u => !Tryz.prog.wantsStandIn u) = true := by kernel_rfl
        exact (show Tryz.prog.wantsStandIn t = false by simpa using List.all_eq_true.1 hall t hm)⟩)
    (by kernel_rfl)
end Go.Proofs.YteaohgebocbehaaGreatDoor.cnfCircuits
namespace Go.Proofs.YteaohgebocbehaaGreatDoor
/-- The card, under a short name, for the claim. -/
theorem cnfCircuits_holds : Rows.CnfCircuitsCardSaid := cnfCircuits.card_holds
#print axioms cnfCircuits_holds
end Go.Proofs.YteaohgebocbehaaGreatDoor
