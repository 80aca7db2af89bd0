/- The row of the law CnfTexts and its tied card, for every input and without a condition: out of what its code computes, at a world in which the library's listed variables hold what the program's text lays. -/
import Derived.Test.YteaohgebocbehaaGreatDoorHC0
import Derived.Test.YteaohgebocbehaaGreatDoorHC1
import Derived.Test.YteaohgebocbehaaGreatDoorHCnfTexts0
import Derived.Test.YteaohgebocbehaaGreatDoorTie
import Derived.Test.YteaohgebocbehaaGreatDoorCards
import Derived.Deep.DeepHandedRow
import Derived.Deep.DeepWitnessRowRef
import Derived.JoinedCond
import Derived.WalkKit
import Derived.ProofKit
import Derived.OpenShut
import Derived.ShutString
import Derived.ChangeOld
import Derived.Below
import Derived.SizedLaws
import Derived.Lib.SmallJoins
import Derived.SevenTiedAt
namespace Go.Proofs.YteaohgebocbehaaGreatDoor.cnfTexts
open Go.ChangeShapes Go.WideShapes Go.ChangeAt Go.RowKit Go.Proofs.YteaohgebocbehaaGreatDoor.Opens Go.Proofs.YteaohgebocbehaaGreatDoor.Hand Go.Proofs.YteaohgebocbehaaGreatDoor.Plain
open Go.ChangeMaps (open_string shut_string)
set_option linter.unusedVariables false
set_option maxRecDepth 1000000 in
theorem witness (os : Os) {H : Type} (enc : TypeId × Value → H) :
    (OpenSpec.ofChange Rows.cnfTextsSpec).preRow enc Tryz.prog Tryz.f6 Rows.cnfTextsRow.domain false Rows.cnfTextsRow.laid ((Door.laidWorld os).forCall (fun _ _ => 0) ⟨#[], #[.agg #[.int .i64 0, .slice none 0 0], .string ByteArray.empty], []⟩).memory #[.agg #[.int .i64 0, .slice none 0 0], .string ByteArray.empty] :=
  OpenSpec.preRow_of_B rfl 8 (by kernel_rfl) (by kernel_rfl) (Door.door_met os _)
set_option maxRecDepth 1000000 in
set_option maxHeartbeats 2000000 in
theorem lifted (os : Os) (started : os.Started) (H : Type) (enc : TypeId × Value → H) (F : Stop.Interp) :
    ReturnsInHanded {} Tryz.checked os 6 .any ((OpenSpec.ofChange Rows.cnfTextsSpec).preRow enc Tryz.prog Tryz.f6 Rows.cnfTextsRow.domain false Rows.cnfTextsRow.laid) (((OpenSpec.ofChange Rows.cnfTextsSpec).at F).post enc Tryz.prog Tryz.f6 false true false false) := by
  refine returnsInHanded_of_row (C := Tryz.checked) (s := OpenSpec.ofChange Rows.cnfTextsSpec) Door.own started (by kernel_rfl) Tryz.func6
    (witness_row_atRef (enc := enc) (C := Tryz.checked) false (Door.laidWorld os) #[.agg #[.int .i64 0, .slice none 0 0], .string ByteArray.empty] rfl (by kernel_rfl) (by kernel_rfl) (by kernel_rfl) (witness os enc)) ?_
  intro W base args ds gs before hval0 hW hcnd _ hsz0 hL hS _
  have hT : Tabs W := Door.tabs hL hS
  clear hL hS hsz0
  have hval : ∀ (j : Nat) t v, Tryz.f6.params[j]? = some t → args[j]? = some v → Value.okWide Tryz.prog W .any base t v := hval0
  have hW' := hW
  obtain ⟨p, q, hA0, hV, rfl, hfz, hnd⟩ := hW
  have hA : DataW.TrodAll enc Tryz.prog W 0 (fun _ => true) true Tryz.f6.params.toList args.toList ds p := hA0
  rw [Tryz.params6] at hA hval
  obtain ⟨v0, vs0, d0, ds0, p0, q0, hargs, rfl, rfl, h0, r0⟩ := trodAll_cons hA
  obtain ⟨v1, vs1, d1, ds1, p1, q1, rfl, rfl, rfl, h1, r1⟩ := trodAll_cons r0
  obtain ⟨rfl, rfl, rfl⟩ := trodAll_nil r1
  obtain rfl : args = #[v0, v1] := by cases args; simp_all
  obtain ⟨rfl, rfl⟩ := trodVars_none hV
  have k0 := h0
  obtain ⟨v0_0, v0_1, y0_0, y0_1, _, rfl, _, _, e0_0, e0_1⟩ := Go.Joins.open_agg2 Tryz.underlying24 (by kernel_rfl) (by kernel_rfl) (hval 0 24 v0 rfl rfl) h0
  obtain ⟨a0_0, g0_0, _, w0_0⟩ := DataW.trod_int Tryz.underlying3 e0_0
  simp only [List.cons.injEq, and_true] at g0_0
  subst g0_0
  obtain ⟨l0_1, ⟨A0_1, c0_1, g0_1, hc0_1, hr0_1⟩, w0_1⟩ := (opens_slice Tryz.underlying22 (by kernel_rfl) (opens_slice Tryz.underlying25 (by kernel_rfl) (opens_int Tryz.underlying3 (by kernel_rfl)))).opens e0_1
  simp only [List.cons.injEq, and_true] at g0_1
  subst g0_1
  clear e0_0 e0_1
  obtain ⟨b1, rfl, rfl, rfl, y1⟩ := open_string Tryz.underlying9 (hval 1 9 v1 rfl rfl) h1
  obtain ⟨a1, ha1⟩ : ∃ l, l = b1.data.toList := ⟨_, rfl⟩
  have eb1 : b1 = toB a1 := by subst ha1; unfold toB; simp
  subst eb1
  clear ha1
  clear hA0 hval0
  refine (Texts_calls a0_0 A0_1 c0_1 l0_1 a1 W hr0_1 hc0_1 hT).mono fun e W' ⟨he, bel⟩ => ?_
  subst he
  exact ⟨_, rfl, _, _, _, [], _, [], hW', trodAll_mk1 (shut_bool Tryz.underlying4 _), (trodAll_cons_mk (Below.trod Door.laidOut (by kernel_rfl) (of_decide_eq_true (by kernel_rfl)) k0 bel (trod_blocks k0)) (trodAll_cons_mk (shut_string Tryz.underlying9 y1) trodAll_mk0)), rfl, bel.frame _, fun h => by cases h⟩
theorem over : Rows.CnfTextsSaid :=
  OpenClaim.holds_of_cond 6 Tryz.f6 rfl rfl rfl rfl rfl rfl rfl ⟨rfl, rfl, rfl, rfl, rfl⟩ rfl rfl rfl rfl rfl (by kernel_rfl) Tryz.func6 (by kernel_rfl)
    (of_decide_eq_true (by kernel_rfl)) (by unfold Func.isWrapper; first | (rw [if_pos (by decide +kernel)]; kernel_rfl) | (rw [if_neg (by decide +kernel)]; exact ⟨rfl, rfl⟩))
    (fun os started H enc _ F => by rw [OpenClaim.pre_eq_preRow]; exact lifted os started H enc F)
theorem card_holds : Rows.CnfTextsCardSaid :=
  Claim7.holds_tied_plain_at .later [] [.data, .data, .data, .data, .sentinel, .sentinel, .pinned] true (true, "3e1de01fa9f213e95b02636ce79036f3b0f944308c75edf4e3caf914449f61d4") true
    over (fun _ h => by cases h) (by kernel_rfl) (fun _ h => by cases h) cnfTexts_row_tie rfl ⟨rfl, rfl⟩ (by kernel_rfl) rfl
    (fun f fn hf hfn => by
      obtain rfl : f = 6 := Option.some.inj ((show Tryz.prog.funcNamed "assessor/assessorlaw26.CnfTexts" = some 6 by kernel_rfl).symm.trans hf) |>.symm
      obtain rfl : fn = Tryz.f6 := (Option.some.inj (Tryz.func6.symm.trans hfn)).symm
      exact ⟨by kernel_rfl, fun j t ht => by
        rw [Tryz.params6] at ht
        have hm : t ∈ [24, 9] := by simpa using Array.mem_of_getElem? ht
        have hall : ([24, 9].all fun u => !Tryz.prog.wantsStandIn u) = true := by kernel_rfl
        exact (show Tryz.prog.wantsStandIn t = false by simpa using List.all_eq_true.1 hall t hm)⟩)
    (by kernel_rfl)
end Go.Proofs.YteaohgebocbehaaGreatDoor.cnfTexts
namespace Go.Proofs.YteaohgebocbehaaGreatDoor
/-- The card, under a short name, for the claim. -/
theorem cnfTexts_holds : Rows.CnfTextsCardSaid := cnfTexts.card_holds
#print axioms cnfTexts_holds
end Go.Proofs.YteaohgebocbehaaGreatDoor
