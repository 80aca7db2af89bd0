/- The row of the law CnfFollows and its tied card, for every input and without a condition: out of what its code computes, at a world in which the library's listed variables hold what the program's text lays. -/
import Derived.Test.YteaohgebocbehaaGreatDoorHC0
import Derived.Test.YteaohgebocbehaaGreatDoorHC1
import Derived.Test.YteaohgebocbehaaGreatDoorHCnfFollows0
import Derived.Test.YteaohgebocbehaaGreatDoorTie
import Derived.Test.YteaohgebocbehaaGreatDoorCards
import Derived.Deep.DeepHandedRow
import Derived.Deep.DeepWitnessRowRef
import Derived.JoinedCond
import Derived.WalkKit
import Derived.ProofKit
import Derived.OpenShut
import Derived.ShutString
import Derived.ChangeOld
import Derived.Below
import Derived.SizedLaws
import Derived.Lib.SmallJoins
import Derived.SevenTiedAt
namespace Go.Proofs.YteaohgebocbehaaGreatDoor.cnfFollows
open Go.ChangeShapes Go.WideShapes Go.ChangeAt Go.RowKit Go.Proofs.YteaohgebocbehaaGreatDoor.Opens Go.Proofs.YteaohgebocbehaaGreatDoor.Hand Go.Proofs.YteaohgebocbehaaGreatDoor.Plain
open Go.ChangeMaps (open_string shut_string)
set_option linter.unusedVariables false
set_option maxRecDepth 1000000 in
theorem witness (os : Os) {H : Type} (enc : TypeId × Value → H) :
    (OpenSpec.ofChange Rows.cnfFollowsSpec).preRow enc Tryz.prog Tryz.f8 Rows.cnfFollowsRow.domain false Rows.cnfFollowsRow.laid ((Door.laidWorld os).forCall (fun _ _ => 0) ⟨#[], #[.agg #[.int .i64 0, .slice none 0 0], .slice none 0 0, .int .u16 0], []⟩).memory #[.agg #[.int .i64 0, .slice none 0 0], .slice none 0 0, .int .u16 0] :=
  OpenSpec.preRow_of_B rfl 8 (by kernel_rfl) (by kernel_rfl) (Door.door_met os _)
set_option maxRecDepth 1000000 in
set_option maxHeartbeats 2000000 in
theorem lifted (os : Os) (started : os.Started) (H : Type) (enc : TypeId × Value → H) (F : Stop.Interp) :
    ReturnsInHanded {} Tryz.checked os 8 .any ((OpenSpec.ofChange Rows.cnfFollowsSpec).preRow enc Tryz.prog Tryz.f8 Rows.cnfFollowsRow.domain false Rows.cnfFollowsRow.laid) (((OpenSpec.ofChange Rows.cnfFollowsSpec).at F).post enc Tryz.prog Tryz.f8 false true false false) := by
  refine returnsInHanded_of_row (C := Tryz.checked) (s := OpenSpec.ofChange Rows.cnfFollowsSpec) Door.own started (by kernel_rfl) Tryz.func8
    (witness_row_atRef (enc := enc) (C := Tryz.checked) false (Door.laidWorld os) #[.agg #[.int .i64 0, .slice none 0 0], .slice none 0 0, .int .u16 0] rfl (by kernel_rfl) (by kernel_rfl) (by kernel_rfl) (witness os enc)) ?_
  intro W base args ds gs before hval0 hW hcnd _ hsz0 hL hS _
  have hT : Tabs W := Door.tabs hL hS
  clear hL hS hsz0
  have hval : ∀ (j : Nat) t v, Tryz.f8.params[j]? = some t → args[j]? = some v → Value.okWide Tryz.prog W .any base t v := hval0
  have hW' := hW
  obtain ⟨p, q, hA0, hV, rfl, hfz, hnd⟩ := hW
  have hA : DataW.TrodAll enc Tryz.prog W 0 (fun _ => true) true Tryz.f8.params.toList args.toList ds p := hA0
  rw [Tryz.params8] at hA hval
  obtain ⟨v0, vs0, d0, ds0, p0, q0, hargs, rfl, rfl, h0, r0⟩ := trodAll_cons hA
  obtain ⟨v1, vs1, d1, ds1, p1, q1, rfl, rfl, rfl, h1, r1⟩ := trodAll_cons r0
  obtain ⟨v2, vs2, d2, ds2, p2, q2, rfl, rfl, rfl, h2, r2⟩ := trodAll_cons r1
  obtain ⟨rfl, rfl, rfl⟩ := trodAll_nil r2
  obtain rfl : args = #[v0, v1, v2] := by cases args; simp_all
  obtain ⟨rfl, rfl⟩ := trodVars_none hV
  have k0 := h0
  obtain ⟨v0_0, v0_1, y0_0, y0_1, _, rfl, _, _, e0_0, e0_1⟩ := Go.Joins.open_agg2 Tryz.underlying24 (by kernel_rfl) (by kernel_rfl) (hval 0 24 v0 rfl rfl) h0
  obtain ⟨a0_0, g0_0, _, w0_0⟩ := DataW.trod_int Tryz.underlying3 e0_0
  simp only [List.cons.injEq, and_true] at g0_0
  subst g0_0
  obtain ⟨l0_1, ⟨A0_1, c0_1, g0_1, hc0_1, hr0_1⟩, w0_1⟩ := (opens_slice Tryz.underlying22 (by kernel_rfl) (opens_slice Tryz.underlying25 (by kernel_rfl) (opens_int Tryz.underlying3 (by kernel_rfl)))).opens e0_1
  simp only [List.cons.injEq, and_true] at g0_1
  subst g0_1
  clear e0_0 e0_1
  obtain ⟨A1, len1, c1, rfl⟩ := okWide_slice Tryz.underlying25 (hval 1 25 v1 rfl rfl)
  have k1 := h1
  obtain ⟨l1, rfl, hc1, hr1, w1⟩ := row_arg Tryz.underlying25 (opens_int Tryz.underlying3 (by kernel_rfl)) h1
  obtain ⟨a2, rfl, rfl, rfl, w2⟩ := open_int Tryz.underlying51 (hval 2 51 v2 rfl rfl) h2
  clear hA0 hval0
  refine (Follows_calls a0_0 A0_1 c0_1 l0_1 A1 c1 l1 a2 W hr0_1 hc0_1 hr1 hc1 w0_1.2 hT).mono fun e W' ⟨he, bel⟩ => ?_
  subst he
  exact ⟨_, rfl, _, _, _, [], _, [], hW', trodAll_mk1 (shut_bool Tryz.underlying4 _), (trodAll_cons_mk (Below.trod Door.laidOut (by kernel_rfl) (of_decide_eq_true (by kernel_rfl)) k0 bel (trod_blocks k0)) (trodAll_cons_mk (Below.trod Door.laidOut (by kernel_rfl) (of_decide_eq_true (by kernel_rfl)) k1 bel (trod_blocks k1)) (trodAll_cons_mk (shut_int Tryz.underlying51 w2) trodAll_mk0))), rfl, bel.frame _, fun h => by cases h⟩
theorem over : Rows.CnfFollowsSaid :=
  OpenClaim.holds_of_cond 8 Tryz.f8 rfl rfl rfl rfl rfl rfl rfl ⟨rfl, rfl, rfl, rfl, rfl⟩ rfl rfl rfl rfl rfl (by kernel_rfl) Tryz.func8 (by kernel_rfl)
    (of_decide_eq_true (by kernel_rfl)) (by unfold Func.isWrapper; first | (rw [if_pos (by decide +kernel)]; kernel_rfl) | (rw [if_neg (by decide +kernel)]; exact ⟨rfl, rfl⟩))
    (fun os started H enc _ F => by rw [OpenClaim.pre_eq_preRow]; exact lifted os started H enc F)
theorem card_holds : Rows.CnfFollowsCardSaid :=
  Claim7.holds_tied_plain_at .later [] [.data, .data, .data, .data, .sentinel, .sentinel, .pinned] true (true, "3e1de01fa9f213e95b02636ce79036f3b0f944308c75edf4e3caf914449f61d4") true
    over (fun _ h => by cases h) (by kernel_rfl) (fun _ h => by cases h) cnfFollows_row_tie rfl ⟨rfl, rfl⟩ (by kernel_rfl) rfl
    (fun f fn hf hfn => by
      obtain rfl : f = 8 := Option.some.inj ((show Tryz.prog.funcNamed "assessor/assessorlaw26.CnfFollows" = some 8 by kernel_rfl).symm.trans hf) |>.symm
      obtain rfl : fn = Tryz.f8 := (Option.some.inj (Tryz.func8.symm.trans hfn)).symm
      exact ⟨by kernel_rfl, fun j t ht => by
        rw [Tryz.params8] at ht
        have hm : t ∈ [24, 25, 51] := by simpa using Array.mem_of_getElem? ht
        have hall : ([24, 25, 51].all fun u => !Tryz.prog.wantsStandIn u) = true := by kernel_rfl
        exact (show Tryz.prog.wantsStandIn t = false by simpa using List.all_eq_true.1 hall t hm)⟩)
    (by kernel_rfl)
end Go.Proofs.YteaohgebocbehaaGreatDoor.cnfFollows
namespace Go.Proofs.YteaohgebocbehaaGreatDoor
/-- The card, under a short name, for the claim. -/
theorem cnfFollows_holds : Rows.CnfFollowsCardSaid := cnfFollows.card_holds
#print axioms cnfFollows_holds
end Go.Proofs.YteaohgebocbehaaGreatDoor
