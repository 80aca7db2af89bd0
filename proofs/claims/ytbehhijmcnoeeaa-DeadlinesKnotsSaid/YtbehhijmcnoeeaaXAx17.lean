/- The functions of the given Go program that the law reaches, as Lean functions, each with a proof that the machine's call answers so; no conditions beyond the premises written in each. Laid by a program; Lean checks it. -/
import Derived.Test.YtbehhijmcnoeeaaXAx0
import Derived.Test.YtbehhijmcnoeeaaXAx1
import Derived.Test.YtbehhijmcnoeeaaXAx3
import Derived.Test.YtbehhijmcnoeeaaXAx7
import Derived.Test.YtbehhijmcnoeeaaXAx9
import Derived.Test.YtbehhijmcnoeeaaXAx10
namespace Go.Proofs.Ytbehhijmcnoeeaa.XA
open Go.RowKit Go.Proofs.YtbehhijmcnoeeaaW.PrintWords Go.Proofs.YtbehhijmcnoeeaaW.PrintLast Go.Proofs.YtbehhijmcnoeeaaW.PrintMore
attribute [local go_sem] max2_int min2_int max_two min_two max_three min_three max_four min_four   -- for this text's walks alone
set_option linter.unusedVariables false
set_option linter.unusedSimpArgs false

attribute [local go_sem high] eqA27
/-! ### assessorlaw51_DeadlinesKnots: function 4 -/
mutual
def assessorlaw51_DeadlinesKnots.j0 : Nat → Int → Int → Bool → Int → Int → Bool → List (S34) → Option (Bool)
 | 0, _, _, _, _, _, _, _ => none
 | k + 1, x1, x2, x33, x199000, x199001, x199002, x199003 => if x33 = true then (some true) else (if (x199003.length : Int) = 0 then (none) else (if 0 ≤ (Int.tmod (wrap64 (x1)) (x199003.length : Int)) then (if (Int.tmod (wrap64 (x1)) (x199003.length : Int)) < (x199003.length : Int) then ((assessorref46_Make.f k ((rd_T34 x199003 (Int.tmod (wrap64 (x1)) (x199003.length : Int))).f1) 100).bind fun bt203 => (if bt203.2.2 = 0 then (if ((rd_T34 x199003 (Int.tmod (wrap64 (x1)) (x199003.length : Int))).f0) > 0 then ((deadlines_Factor.f k x199000 x199001 x199002 x199003 ((rd_T34 x199003 (Int.tmod (wrap64 (x1)) (x199003.length : Int))).f0)).bind fun bt207 => (assessorlaw51_DeadlinesKnots.j1 k x2 (Int.tmod (wrap64 (x1)) (x199003.length : Int)) bt203.2.2 (!(bt207.1 == bt203.1) || (!(bt207.2 == bt203.2.1))) x199000 x199001 x199002 x199003 ((rd_T34 x199003 (Int.tmod (wrap64 (x1)) (x199003.length : Int))).f0) ((rd_T34 x199003 (Int.tmod (wrap64 (x1)) (x199003.length : Int))).f1) bt203.1 bt203.2.1)) else (assessorlaw51_DeadlinesKnots.j1 k x2 (Int.tmod (wrap64 (x1)) (x199003.length : Int)) bt203.2.2 false x199000 x199001 x199002 x199003 ((rd_T34 x199003 (Int.tmod (wrap64 (x1)) (x199003.length : Int))).f0) ((rd_T34 x199003 (Int.tmod (wrap64 (x1)) (x199003.length : Int))).f1) bt203.1 bt203.2.1)) else (assessorlaw51_DeadlinesKnots.j1 k x2 (Int.tmod (wrap64 (x1)) (x199003.length : Int)) bt203.2.2 true x199000 x199001 x199002 x199003 ((rd_T34 x199003 (Int.tmod (wrap64 (x1)) (x199003.length : Int))).f0) ((rd_T34 x199003 (Int.tmod (wrap64 (x1)) (x199003.length : Int))).f1) bt203.1 bt203.2.1))) else (none)) else (none)))
def assessorlaw51_DeadlinesKnots.j1 : Nat → Int → Int → Int → Bool → Int → Int → Bool → List (S34) → Int → Int → Int → Int → Option (Bool)
 | 0, _, _, _, _, _, _, _, _, _, _, _, _ => none
 | k + 1, x2, x7, x10, x65, x199000, x199001, x199002, x199003, x203000, x203001, x207000, x207001 => if x65 = true then (none) else (if x2 < 0 then (assessorlaw51_DeadlinesKnots.j2 k x2 x7 x10 true x199000 x199001 x199002 x199003 x207000 x207001) else (if x2 > 1099511627776 then (assessorlaw51_DeadlinesKnots.j2 k x2 x7 x10 true x199000 x199001 x199002 x199003 x207000 x207001) else (assessorlaw51_DeadlinesKnots.j2 k x2 x7 x10 (decide (x2 ≤ x203000)) x199000 x199001 x199002 x199003 x207000 x207001)))
def assessorlaw51_DeadlinesKnots.j2 : Nat → Int → Int → Int → Bool → Int → Int → Bool → List (S34) → Int → Int → Option (Bool)
 | 0, _, _, _, _, _, _, _, _, _, _ => none
 | k + 1, x2, x7, x10, x77, x199000, x199001, x199002, x199003, x207000, x207001 => if x77 = true then (some true) else (if (wrap64 (x7 + 1)) < (x199003.length : Int) then (if 0 ≤ (wrap64 (x7 + 1)) then (if x2 > ((rd_T34 x199003 (wrap64 (x7 + 1))).f0) then (some true) else ((assessorref46_Make.f k ((rd_T34 x199003 (wrap64 (x7 + 1))).f1) 100).bind fun bt212 => (assessorlaw51_DeadlinesKnots.j3 k x2 bt212.2.2 x199000 x199001 x199002 x199003 x207000 x207001 bt212.1 bt212.2.1))) else (none)) else (assessorlaw51_DeadlinesKnots.j3 k x2 x10 x199000 x199001 x199002 x199003 x207000 x207001 0 1))
def assessorlaw51_DeadlinesKnots.j3 : Nat → Int → Int → Int → Int → Bool → List (S34) → Int → Int → Int → Int → Option (Bool)
 | 0, _, _, _, _, _, _, _, _, _, _ => none
 | k + 1, x2, x10, x199000, x199001, x199002, x199003, x207000, x207001, x210000, x210001 => (deadlines_Factor.f k x199000 x199001 x199002 x199003 x2).bind fun bt215 => ((assessorref46_Compare.f k bt215.1 bt215.2 x207000 x207001).bind fun bt217 => ((deadlines_Factor.f k x199000 x199001 x199002 x199003 x2).bind fun bt219 => ((assessorref46_Compare.f k bt219.1 bt219.2 x210000 x210001).bind fun bt221 => (if x10 = 0 then (if bt217.2 = true then (if bt221.2 = true then (if bt217.1 ≤ 0 then (some (decide (bt221.1 ≥ 0))) else (none)) else (none)) else (none)) else (none)))))
end
def assessorlaw51_DeadlinesKnots.f (k : Nat) (a0_0 : Int) (a0_1 : Int) (a0_2 : Bool) (l0_3 : List (S34)) (a1 : Int) (a2 : Int) : Option (Bool) := (assessorlaw51_awake.f k).bind fun t199 => (if t199 = true then (if (l0_3.length : Int) > 20 then (assessorlaw51_DeadlinesKnots.j0 k a1 a2 true a0_0 a0_1 true l0_3) else (if (l0_3.length : Int) = 0 then (assessorlaw51_DeadlinesKnots.j0 k a1 a2 true a0_0 a0_1 true l0_3) else ((deadlines_Valid.f k a0_0 a0_1 true l0_3).bind fun t200 => (assessorlaw51_DeadlinesKnots.j0 k a1 a2 (!t200) a0_0 a0_1 true l0_3)))) else (none))
theorem assessorlaw51_DeadlinesKnots.mono_l : ∀ k, (∀ y0 y1 y2 y3 y4 y5 y6, LeO (assessorlaw51_DeadlinesKnots.j0 k y0 y1 y2 y3 y4 y5 y6) (assessorlaw51_DeadlinesKnots.j0 (k + 1) y0 y1 y2 y3 y4 y5 y6)) ∧ (∀ y0 y1 y2 y3 y4 y5 y6 y7 y8 y9 y10 y11, LeO (assessorlaw51_DeadlinesKnots.j1 k y0 y1 y2 y3 y4 y5 y6 y7 y8 y9 y10 y11) (assessorlaw51_DeadlinesKnots.j1 (k + 1) y0 y1 y2 y3 y4 y5 y6 y7 y8 y9 y10 y11)) ∧ (∀ y0 y1 y2 y3 y4 y5 y6 y7 y8 y9, LeO (assessorlaw51_DeadlinesKnots.j2 k y0 y1 y2 y3 y4 y5 y6 y7 y8 y9) (assessorlaw51_DeadlinesKnots.j2 (k + 1) y0 y1 y2 y3 y4 y5 y6 y7 y8 y9)) ∧ (∀ y0 y1 y2 y3 y4 y5 y6 y7 y8 y9, LeO (assessorlaw51_DeadlinesKnots.j3 k y0 y1 y2 y3 y4 y5 y6 y7 y8 y9) (assessorlaw51_DeadlinesKnots.j3 (k + 1) y0 y1 y2 y3 y4 y5 y6 y7 y8 y9))
 | 0 => ⟨fun _ _ _ _ _ _ _ r h => by simp [assessorlaw51_DeadlinesKnots.j0] at h, fun _ _ _ _ _ _ _ _ _ _ _ _ r h => by simp [assessorlaw51_DeadlinesKnots.j1] at h, fun _ _ _ _ _ _ _ _ _ _ r h => by simp [assessorlaw51_DeadlinesKnots.j2] at h, fun _ _ _ _ _ _ _ _ _ _ r h => by simp [assessorlaw51_DeadlinesKnots.j3] at h⟩
 | k + 1 => by
  obtain ⟨ih0, ih1, ih2, ih3⟩ := assessorlaw51_DeadlinesKnots.mono_l k
  refine ⟨?_, ?_, ?_, ?_⟩
  ·intro y0 y1 y2 y3 y4 y5 y6
   unfold assessorlaw51_DeadlinesKnots.j0
   repeat' first
   | (with_reducible exact ih0 _ _ _ _ _ _ _)
   | (with_reducible exact ih1 _ _ _ _ _ _ _ _ _ _ _ _)
   | (with_reducible exact ih2 _ _ _ _ _ _ _ _ _ _)
   | (with_reducible exact ih3 _ _ _ _ _ _ _ _ _ _)
   | (with_reducible exact assessorlaw51_awake.mono _)
   | (with_reducible exact assessorref46_Compare.mono _ _ _ _ _)
   | (with_reducible exact assessorref46_Make.mono _ _ _)
   | (with_reducible exact deadlines_Factor.mono _ _ _ _ _ _)
   | (with_reducible exact deadlines_Valid.mono _ _ _ _ _)
   | (with_reducible exact LeO.refl _)
   | (with_reducible exact LeO.none _)
   | (with_reducible refine LeO.ite ?_ ?_)
   | (with_reducible refine LeO.bind ?_ (fun _ => ?_))
   | exact ih0 _ _ _ _ _ _ _
   | exact ih1 _ _ _ _ _ _ _ _ _ _ _ _
   | exact ih2 _ _ _ _ _ _ _ _ _ _
   | exact ih3 _ _ _ _ _ _ _ _ _ _
   | exact assessorlaw51_awake.mono _
   | exact assessorref46_Compare.mono _ _ _ _ _
   | exact assessorref46_Make.mono _ _ _
   | exact deadlines_Factor.mono _ _ _ _ _ _
   | exact deadlines_Valid.mono _ _ _ _ _
   | exact LeO.none _
   | refine LeO.ite ?_ ?_
   | refine LeO.bind ?_ (fun _ => ?_)
  ·intro y0 y1 y2 y3 y4 y5 y6 y7 y8 y9 y10 y11
   unfold assessorlaw51_DeadlinesKnots.j1
   repeat' first
   | (with_reducible exact ih0 _ _ _ _ _ _ _)
   | (with_reducible exact ih1 _ _ _ _ _ _ _ _ _ _ _ _)
   | (with_reducible exact ih2 _ _ _ _ _ _ _ _ _ _)
   | (with_reducible exact ih3 _ _ _ _ _ _ _ _ _ _)
   | (with_reducible exact assessorlaw51_awake.mono _)
   | (with_reducible exact assessorref46_Compare.mono _ _ _ _ _)
   | (with_reducible exact assessorref46_Make.mono _ _ _)
   | (with_reducible exact deadlines_Factor.mono _ _ _ _ _ _)
   | (with_reducible exact deadlines_Valid.mono _ _ _ _ _)
   | (with_reducible exact LeO.refl _)
   | (with_reducible exact LeO.none _)
   | (with_reducible refine LeO.ite ?_ ?_)
   | (with_reducible refine LeO.bind ?_ (fun _ => ?_))
   | exact ih0 _ _ _ _ _ _ _
   | exact ih1 _ _ _ _ _ _ _ _ _ _ _ _
   | exact ih2 _ _ _ _ _ _ _ _ _ _
   | exact ih3 _ _ _ _ _ _ _ _ _ _
   | exact assessorlaw51_awake.mono _
   | exact assessorref46_Compare.mono _ _ _ _ _
   | exact assessorref46_Make.mono _ _ _
   | exact deadlines_Factor.mono _ _ _ _ _ _
   | exact deadlines_Valid.mono _ _ _ _ _
   | exact LeO.none _
   | refine LeO.ite ?_ ?_
   | refine LeO.bind ?_ (fun _ => ?_)
  ·intro y0 y1 y2 y3 y4 y5 y6 y7 y8 y9
   unfold assessorlaw51_DeadlinesKnots.j2
   repeat' first
   | (with_reducible exact ih0 _ _ _ _ _ _ _)
   | (with_reducible exact ih1 _ _ _ _ _ _ _ _ _ _ _ _)
   | (with_reducible exact ih2 _ _ _ _ _ _ _ _ _ _)
   | (with_reducible exact ih3 _ _ _ _ _ _ _ _ _ _)
   | (with_reducible exact assessorlaw51_awake.mono _)
   | (with_reducible exact assessorref46_Compare.mono _ _ _ _ _)
   | (with_reducible exact assessorref46_Make.mono _ _ _)
   | (with_reducible exact deadlines_Factor.mono _ _ _ _ _ _)
   | (with_reducible exact deadlines_Valid.mono _ _ _ _ _)
   | (with_reducible exact LeO.refl _)
   | (with_reducible exact LeO.none _)
   | (with_reducible refine LeO.ite ?_ ?_)
   | (with_reducible refine LeO.bind ?_ (fun _ => ?_))
   | exact ih0 _ _ _ _ _ _ _
   | exact ih1 _ _ _ _ _ _ _ _ _ _ _ _
   | exact ih2 _ _ _ _ _ _ _ _ _ _
   | exact ih3 _ _ _ _ _ _ _ _ _ _
   | exact assessorlaw51_awake.mono _
   | exact assessorref46_Compare.mono _ _ _ _ _
   | exact assessorref46_Make.mono _ _ _
   | exact deadlines_Factor.mono _ _ _ _ _ _
   | exact deadlines_Valid.mono _ _ _ _ _
   | exact LeO.none _
   | refine LeO.ite ?_ ?_
   | refine LeO.bind ?_ (fun _ => ?_)
  ·intro y0 y1 y2 y3 y4 y5 y6 y7 y8 y9
   unfold assessorlaw51_DeadlinesKnots.j3
   repeat' first
   | (with_reducible exact ih0 _ _ _ _ _ _ _)
   | (with_reducible exact ih1 _ _ _ _ _ _ _ _ _ _ _ _)
   | (with_reducible exact ih2 _ _ _ _ _ _ _ _ _ _)
   | (with_reducible exact ih3 _ _ _ _ _ _ _ _ _ _)
   | (with_reducible exact assessorlaw51_awake.mono _)
   | (with_reducible exact assessorref46_Compare.mono _ _ _ _ _)
   | (with_reducible exact assessorref46_Make.mono _ _ _)
   | (with_reducible exact deadlines_Factor.mono _ _ _ _ _ _)
   | (with_reducible exact deadlines_Valid.mono _ _ _ _ _)
   | (with_reducible exact LeO.refl _)
   | (with_reducible exact LeO.none _)
   | (with_reducible refine LeO.ite ?_ ?_)
   | (with_reducible refine LeO.bind ?_ (fun _ => ?_))
   | exact ih0 _ _ _ _ _ _ _
   | exact ih1 _ _ _ _ _ _ _ _ _ _ _ _
   | exact ih2 _ _ _ _ _ _ _ _ _ _
   | exact ih3 _ _ _ _ _ _ _ _ _ _
   | exact assessorlaw51_awake.mono _
   | exact assessorref46_Compare.mono _ _ _ _ _
   | exact assessorref46_Make.mono _ _ _
   | exact deadlines_Factor.mono _ _ _ _ _ _
   | exact deadlines_Valid.mono _ _ _ _ _
   | exact LeO.none _
   | refine LeO.ite ?_ ?_
   | refine LeO.bind ?_ (fun _ => ?_)
theorem assessorlaw51_DeadlinesKnots.mono : ∀ a0 a1 a2 a3 a4 a5 k, LeO (assessorlaw51_DeadlinesKnots.f k a0 a1 a2 a3 a4 a5) (assessorlaw51_DeadlinesKnots.f (k + 1) a0 a1 a2 a3 a4 a5) := by
 intro a0 a1 a2 a3 a4 a5 k
 obtain ⟨ih0, ih1, ih2, ih3⟩ := assessorlaw51_DeadlinesKnots.mono_l k
 unfold assessorlaw51_DeadlinesKnots.f
 repeat' first
   | (with_reducible exact ih0 _ _ _ _ _ _ _)
   | (with_reducible exact ih1 _ _ _ _ _ _ _ _ _ _ _ _)
   | (with_reducible exact ih2 _ _ _ _ _ _ _ _ _ _)
   | (with_reducible exact ih3 _ _ _ _ _ _ _ _ _ _)
   | (with_reducible exact assessorlaw51_awake.mono _)
   | (with_reducible exact assessorref46_Compare.mono _ _ _ _ _)
   | (with_reducible exact assessorref46_Make.mono _ _ _)
   | (with_reducible exact deadlines_Factor.mono _ _ _ _ _ _)
   | (with_reducible exact deadlines_Valid.mono _ _ _ _ _)
   | (with_reducible exact LeO.refl _)
   | (with_reducible exact LeO.none _)
   | (with_reducible refine LeO.ite ?_ ?_)
   | (with_reducible refine LeO.bind ?_ (fun _ => ?_))
   | exact ih0 _ _ _ _ _ _ _
   | exact ih1 _ _ _ _ _ _ _ _ _ _ _ _
   | exact ih2 _ _ _ _ _ _ _ _ _ _
   | exact ih3 _ _ _ _ _ _ _ _ _ _
   | exact assessorlaw51_awake.mono _
   | exact assessorref46_Compare.mono _ _ _ _ _
   | exact assessorref46_Make.mono _ _ _
   | exact deadlines_Factor.mono _ _ _ _ _ _
   | exact deadlines_Valid.mono _ _ _ _ _
   | exact LeO.none _
   | refine LeO.ite ?_ ?_
   | refine LeO.bind ?_ (fun _ => ?_)
def assessorlaw51_DeadlinesKnots.T9 : Bool × List (List Nat × List Nat) := (true, [([], []), ([0], [0]), ([1], [1]), ([2], [2]), ([3, 2], [2, 3]), ([4, 2], [2, 4]), ([5, 2, 2], [2, 5]), ([6], [6]), ([6], [6]), ([8, 6], [6, 8]), ([7, 9, 6, 6], [6, 7, 9]), ([6], [6]), ([10, 11, 6], [6, 10, 11]), ([6, 12, 2], [2, 6, 12]), ([2, 13], [2, 13])])
def assessorlaw51_DeadlinesKnots.B9 : List Nat := [0, 1, 3, 7, 15, 31, 63, 127, 127, 383, 1023, 127, 4095, 8191, 16383]
theorem assessorlaw51_DeadlinesKnots.tab9 : rtab .any (opsOf Try.f4 9) = assessorlaw51_DeadlinesKnots.T9 := by kernel_rfl
theorem assessorlaw51_DeadlinesKnots.bits9 : waitsOk assessorlaw51_DeadlinesKnots.T9.2 assessorlaw51_DeadlinesKnots.B9 = true := by kernel_rfl
def assessorlaw51_DeadlinesKnots.T18 : Bool × List (List Nat × List Nat) := (true, [([], []), ([], []), ([0, 1], [0, 1]), ([], []), ([2, 3, 2], [2, 3]), ([4], [4]), ([5], [5]), ([5], [5]), ([6, 4, 0, 1, 2, 3, 4, 5, 6], [6]), ([7, 8, 0, 1, 2, 3, 4, 5, 6, 7, 8], [7])])
def assessorlaw51_DeadlinesKnots.B18 : List Nat := [0, 0, 3, 0, 15, 31, 63, 63, 127, 511]
theorem assessorlaw51_DeadlinesKnots.tab18 : rtab .any (opsOf Try.f4 18) = assessorlaw51_DeadlinesKnots.T18 := by kernel_rfl
theorem assessorlaw51_DeadlinesKnots.bits18 : waitsOk assessorlaw51_DeadlinesKnots.T18.2 assessorlaw51_DeadlinesKnots.B18 = true := by kernel_rfl
def assessorlaw51_DeadlinesKnots.T19 : Bool × List (List Nat × List Nat) := (true, [([], []), ([], []), ([0, 1], [0, 1]), ([], []), ([2, 3, 2], [2, 3]), ([4], [4]), ([5], [5]), ([5], [5]), ([6, 4, 0, 1, 2, 3, 4, 5, 6], [6]), ([7, 8, 0, 1, 2, 3, 4, 5, 6, 7, 8], [7])])
def assessorlaw51_DeadlinesKnots.B19 : List Nat := [0, 0, 3, 0, 15, 31, 63, 63, 127, 511]
theorem assessorlaw51_DeadlinesKnots.tab19 : rtab .any (opsOf Try.f4 19) = assessorlaw51_DeadlinesKnots.T19 := by kernel_rfl
theorem assessorlaw51_DeadlinesKnots.bits19 : waitsOk assessorlaw51_DeadlinesKnots.T19.2 assessorlaw51_DeadlinesKnots.B19 = true := by kernel_rfl
set_option maxHeartbeats 8000000 in
set_option maxRecDepth 100000 in
theorem assessorlaw51_DeadlinesKnots.calls (k : Nat) (a0_0 : Int) (a0_1 : Int) (a0_2 : Bool) (A0_3 : Option Addr) (c0_3 : Nat) (l0_3 : List (S34)) (a1 : Int) (a2 : Int) (r : Bool) (w : World) (hr0_3 : Kd.C k34 w A0_3 l0_3.length l0_3) (hc0_3 : l0_3.length ≤ c0_3) (h : assessorlaw51_DeadlinesKnots.f k a0_0 a0_1 a0_2 l0_3 a1 a2 = some r) :
  Calls Try.prog 4 #[.agg #[.int .i64 a0_0, .int .i64 a0_1, .bool a0_2, .slice A0_3 l0_3.length c0_3], .int .u8 a1, .int .i64 a2] w fun e w' => e = .returned (.bool r) ∧ Below w.heap.size w w' := by
 have hu24 := Try.underlying24
 have hu34 := Try.underlying34
 have hu27 := Try.underlying27
 have HR0_3 := Aside0.mk hr0_3
 have HC0_3 := Aside0.mk hc0_3
 clear hr0_3 hc0_3
 have HB := Aside0.mk (Below.refl w.heap.size w)
 have H : ((assessorlaw51_awake.f k).bind fun t199 => (if t199 = true then (if (l0_3.length : Int) > 20 then (assessorlaw51_DeadlinesKnots.j0 k a1 a2 true a0_0 a0_1 true l0_3) else (if (l0_3.length : Int) = 0 then (assessorlaw51_DeadlinesKnots.j0 k a1 a2 true a0_0 a0_1 true l0_3) else ((deadlines_Valid.f k a0_0 a0_1 true l0_3).bind fun t200 => (assessorlaw51_DeadlinesKnots.j0 k a1 a2 (!t200) a0_0 a0_1 true l0_3)))) else (none))) = some r := h
 clear h
 replace H := Option.bind_eq_some_iff.mp H
 obtain ⟨t199, A40, H⟩ := H
 replace H : (if t199 = true then (if (l0_3.length : Int) > 20 then (assessorlaw51_DeadlinesKnots.j0 k a1 a2 true a0_0 a0_1 true l0_3) else (if (l0_3.length : Int) = 0 then (assessorlaw51_DeadlinesKnots.j0 k a1 a2 true a0_0 a0_1 true l0_3) else ((deadlines_Valid.f k a0_0 a0_1 true l0_3).bind fun t200 => (assessorlaw51_DeadlinesKnots.j0 k a1 a2 (!t200) a0_0 a0_1 true l0_3)))) else (none)) = some r := H
 have A4 := Aside0.mk A40
 clear A40
 by_cases c5 : t199 = true
 ·subst c5
  have H1 : (if (l0_3.length : Int) > 20 then (assessorlaw51_DeadlinesKnots.j0 k a1 a2 true a0_0 a0_1 true l0_3) else (if (l0_3.length : Int) = 0 then (assessorlaw51_DeadlinesKnots.j0 k a1 a2 true a0_0 a0_1 true l0_3) else ((deadlines_Valid.f k a0_0 a0_1 true l0_3).bind fun t200 => (assessorlaw51_DeadlinesKnots.j0 k a1 a2 (!t200) a0_0 a0_1 true l0_3)))) = some r := by rw [if_pos rfl] at H; exact H
  clear H
  have H := H1
  clear H1
  have HC6 := Aside0.mk H
  clear H
  go_enter Try.func4, Try.ntmps4
  go_upto_region 4 with (first | ((with_reducible refine gate_dst (N := 3) rfl ?_); (try (refine gate_guard (by rfl) ?_; dsimp only)); refine box_event ?hg (N := 3) ?hd (cs := #[.int .i64 a0_0, .int .i64 a0_1, .bool a0_2, .slice A0_3 l0_3.length c0_3]) (t := 24) ?hr ?_; (case hd => rfl); (case hg => rfl); (case hr => first | (go_simp; done) | (go_simp; rfl)); intro gb198 hg w7 hbox hb; have n0_ := Aside0.mk (below_step (by repeat (first | (with_reducible first | exact HB.out | apply below_alloc | apply pw_below_drewN | apply below_drew1) | exact HB.out)) hb); have n1_ := Aside0.mk (hbox); have n2_ := Aside0.mk ((by rw [hg]; exact (below_size (by repeat (first | (with_reducible first | exact HB.out | apply below_alloc | apply pw_below_drewN | apply below_drew1) | exact HB.out))) : w.heap.size ≤ gb198)); have n3_ := Aside0.mk ((by rw [hg]; exact (below_size (by repeat (first | (with_reducible first | exact HB.out | apply below_alloc | apply pw_below_drewN | apply below_drew1) | exact HB.out))) : w.heap.size ≤ gb198)); clear HB; have HB := n0_; have BK198 := n1_; have GW198 := n2_; have GE198 := n3_; clear n0_ n1_ n2_ n3_; clear hb hbox hg) | ((with_reducible refine gate_callee (f := 10) rfl ?_); refine goesL_ (some 16) rfl rfl Try.func10 (by kernel_rfl) rfl #[] rfl (by (try simp only [List.map_toArray, List.map_cons, List.map_nil]); first | done | rfl | (simp only [List.length_drop, List.length_take]; rfl)) ?_; (with_reducible refine (assessorlaw51_awake.calls k  true _ A4.out).mono ?_); rintro e w8 ⟨rfl, hb⟩; refine ⟨_, rfl, ?_⟩; have n0_ := Aside0.mk (blk_below (g := gb198) (o := .cells #[.int .i64 a0_0, .int .i64 a0_1, .bool a0_2, .slice A0_3 l0_3.length c0_3] 24 (0, 0)) (by (with_reducible repeat (first | refine blk_drewN ?_ _ | refine blk_drew ?_ | refine blk_alloc ?_ _)); exact BK198.out) hb); have n1_ := Aside0.mk (below_step (by repeat (first | (with_reducible first | exact HB.out | apply below_alloc | apply pw_below_drewN | apply below_drew1 | refine below_set ?_ GE198.out) | exact HB.out)) hb); clear BK198; clear HB; have BK198 := n0_; have HB := n1_; clear n0_ n1_; (try clear hb); (try clear hb2); (try clear hk); (try clear hi); have hcz9_0 : w8.cell? ⟨gb198, 0, none⟩ = some (.int .i64 a0_0) := (blk_cell BK198.out 0).trans rfl; have hcz9_1 : w8.cell? ⟨gb198, 1, none⟩ = some (.int .i64 a0_1) := (blk_cell BK198.out 1).trans rfl; have hcz9_2 : w8.cell? ⟨gb198, 2, none⟩ = some (.bool a0_2) := (blk_cell BK198.out 2).trans rfl; have hcz9_3 : w8.cell? ⟨gb198, 3, none⟩ = some (.slice A0_3 l0_3.length c0_3) := (blk_cell BK198.out 3).trans rfl; have hfz9_0 := blk_frozen BK198.out 0; have hfz9_1 := blk_frozen BK198.out 1; have hfz9_2 := blk_frozen BK198.out 2; have hfz9_3 := blk_frozen BK198.out 3))
  (try simp only [Act.put, List.setIfInBounds_toArray, List.set_cons_zero, List.set_cons_succ])
  go_cut [33] (fun v33 wc => ∃ (kq : Nat) (x33_5 : Bool), v33 = .bool x33_5 ∧ Aside0 (assessorlaw51_DeadlinesKnots.j0 kq a1 a2 x33_5 a0_0 a0_1 true l0_3 = some r) ∧ Aside0 (kq ≤ k) ∧ Aside0 (wc.heap[gb198]? = some (.cells #[.int .i64 a0_0, .int .i64 a0_1, .bool true, (.slice A0_3 l0_3.length c0_3)] 24 (0, 0))) ∧ Aside0 (Below w.heap.size w wc))
  case first =>
   have H := HC6.out
   clear HC6
   by_cases c10 : (l0_3.length : Int) > 20
   ·rw [if_pos c10] at H
    have c10b0 : decide (20 < (l0_3.length : Int)) = true := decide_eq_true c10
    have c10b1 : decide (20 < l0_3.length) = true := decide_eq_true (by omega)
    clear c10
    (first | rw [c10b0] | (simp only [i64_w, i32_w]; rw [c10b0]) | skip)
    have H' := Aside0.mk H
    clear H
    have hcz11_0 : w8.cell? ⟨gb198, 0, none⟩ = some (.int .i64 a0_0) := (blk_cell BK198.out 0).trans rfl
    have hcz11_1 : w8.cell? ⟨gb198, 1, none⟩ = some (.int .i64 a0_1) := (blk_cell BK198.out 1).trans rfl
    have hcz11_2 : w8.cell? ⟨gb198, 2, none⟩ = some (.bool a0_2) := (blk_cell BK198.out 2).trans rfl
    have hcz11_3 : w8.cell? ⟨gb198, 3, none⟩ = some (.slice A0_3 l0_3.length c0_3) := (blk_cell BK198.out 3).trans rfl
    have hfz11_0 := blk_frozen BK198.out 0
    have hfz11_1 := blk_frozen BK198.out 1
    have hfz11_2 := blk_frozen BK198.out 2
    have hfz11_3 := blk_frozen BK198.out 3
    go_wp2
    go_meet
    case rel => exact ⟨_, (true), (by first | rfl | (simp; done) | (simp [*]; done)), H', ⟨by first | omega | exact Nat.le_refl _⟩, ⟨by (with_reducible repeat (first | refine blk_drewN ?_ _ | refine blk_drew ?_ | refine blk_alloc ?_ _)); refine blk_put (cs := #[.int .i64 a0_0, .int .i64 a0_1, .bool a0_2, .slice A0_3 l0_3.length c0_3]) ?_ 2 _ rfl; (with_reducible repeat (first | refine blk_drewN ?_ _ | refine blk_drew ?_ | refine blk_alloc ?_ _)); exact BK198.out⟩, ⟨by repeat (first | (with_reducible first | exact HB.out | apply below_alloc | apply pw_below_drewN | apply below_drew1 | refine below_set ?_ GE198.out) | exact HB.out)⟩⟩
   ·rw [if_neg c10] at H
    have c10b0 : decide (20 < (l0_3.length : Int)) = false := decide_eq_false c10
    have c10b1 : decide (20 < l0_3.length) = false := decide_eq_false (by omega)
    clear c10
    (first | rw [c10b0] | (simp only [i64_w, i32_w]; rw [c10b0]) | skip)
    by_cases c12 : (l0_3.length : Int) = 0
    ·rw [if_pos c12] at H
     have c12b0 : ((l0_3.length : Int) == 0) = true := beq_iff_eq.mpr c12
     have c12b1 : ((l0_3.length : Int) != 0) = false := bne_eq_false_iff_eq.mpr c12
     clear c12
     have H' := Aside0.mk H
     clear H
     have hcz13_0 : w8.cell? ⟨gb198, 0, none⟩ = some (.int .i64 a0_0) := (blk_cell BK198.out 0).trans rfl
     have hcz13_1 : w8.cell? ⟨gb198, 1, none⟩ = some (.int .i64 a0_1) := (blk_cell BK198.out 1).trans rfl
     have hcz13_2 : w8.cell? ⟨gb198, 2, none⟩ = some (.bool a0_2) := (blk_cell BK198.out 2).trans rfl
     have hcz13_3 : w8.cell? ⟨gb198, 3, none⟩ = some (.slice A0_3 l0_3.length c0_3) := (blk_cell BK198.out 3).trans rfl
     have hfz13_0 := blk_frozen BK198.out 0
     have hfz13_1 := blk_frozen BK198.out 1
     have hfz13_2 := blk_frozen BK198.out 2
     have hfz13_3 := blk_frozen BK198.out 3
     go_wp2
     go_meet
     case rel => exact ⟨_, (true), (by first | rfl | (simp; done) | (simp [*]; done)), H', ⟨by first | omega | exact Nat.le_refl _⟩, ⟨by (with_reducible repeat (first | refine blk_drewN ?_ _ | refine blk_drew ?_ | refine blk_alloc ?_ _)); refine blk_put (cs := #[.int .i64 a0_0, .int .i64 a0_1, .bool a0_2, .slice A0_3 l0_3.length c0_3]) ?_ 2 _ rfl; (with_reducible repeat (first | refine blk_drewN ?_ _ | refine blk_drew ?_ | refine blk_alloc ?_ _)); exact BK198.out⟩, ⟨by repeat (first | (with_reducible first | exact HB.out | apply below_alloc | apply pw_below_drewN | apply below_drew1 | refine below_set ?_ GE198.out) | exact HB.out)⟩⟩
    ·rw [if_neg c12] at H
     have c12b0 : ((l0_3.length : Int) == 0) = false := beq_eq_false_iff_ne.mpr c12
     have c12b1 : ((l0_3.length : Int) != 0) = true := bne_iff_ne.mpr c12
     have c12b2 : ¬ (l0_3 = []) := fun h_ => c12 (by rw [h_]; rfl)
     replace H := Option.bind_eq_some_iff.mp H
     obtain ⟨t200, A140, H⟩ := H
     replace H : (assessorlaw51_DeadlinesKnots.j0 k a1 a2 (!t200) a0_0 a0_1 true l0_3) = some r := H
     have A14 := Aside0.mk A140
     clear A140
     have H' := Aside0.mk H
     clear H
     have hcz15_0 : w8.cell? ⟨gb198, 0, none⟩ = some (.int .i64 a0_0) := (blk_cell BK198.out 0).trans rfl
     have hcz15_1 : w8.cell? ⟨gb198, 1, none⟩ = some (.int .i64 a0_1) := (blk_cell BK198.out 1).trans rfl
     have hcz15_2 : w8.cell? ⟨gb198, 2, none⟩ = some (.bool a0_2) := (blk_cell BK198.out 2).trans rfl
     have hcz15_3 : w8.cell? ⟨gb198, 3, none⟩ = some (.slice A0_3 l0_3.length c0_3) := (blk_cell BK198.out 3).trans rfl
     have hfz15_0 := blk_frozen BK198.out 0
     have hfz15_1 := blk_frozen BK198.out 1
     have hfz15_2 := blk_frozen BK198.out 2
     have hfz15_3 := blk_frozen BK198.out 3
     go_wp2_with (first | (go_at_call 12; (with_reducible refine (deadlines_Valid.calls k a0_0 a0_1 true _ _ l0_3 t200 _ ?side1 ?side2 A14.out).mono ?_); (case side1 => exact Kd.C_below HR0_3.out (by repeat (first | (with_reducible first | exact HB.out | apply below_alloc | apply pw_below_drewN | apply below_drew1 | refine below_set ?_ GE198.out) | exact HB.out))); (case side2 => exact HC0_3.out); rintro e w16 ⟨rfl, hb⟩; have n0_ := Aside0.mk (blk_below (g := gb198) (o := .cells #[.int .i64 a0_0, .int .i64 a0_1, .bool true, .slice A0_3 l0_3.length c0_3] 24 (0, 0)) (by (with_reducible repeat (first | refine blk_drewN ?_ _ | refine blk_drew ?_ | refine blk_alloc ?_ _)); refine blk_put (cs := #[.int .i64 a0_0, .int .i64 a0_1, .bool a0_2, .slice A0_3 l0_3.length c0_3]) ?_ 2 _ rfl; (with_reducible repeat (first | refine blk_drewN ?_ _ | refine blk_drew ?_ | refine blk_alloc ?_ _)); exact BK198.out) hb); have n1_ := Aside0.mk (below_step (by repeat (first | (with_reducible first | exact HB.out | apply below_alloc | apply pw_below_drewN | apply below_drew1 | refine below_set ?_ GE198.out) | exact HB.out)) hb); clear BK198; clear HB; have BK198 := n0_; have HB := n1_; clear n0_ n1_; (try clear hb); (try clear hb2); (try clear hk); (try clear hi)))
     go_meet
     case rel => exact ⟨_, (!t200), (by first | rfl | (simp; done) | (simp [*]; done)), H', ⟨by first | omega | exact Nat.le_refl _⟩, ⟨by (with_reducible repeat (first | refine blk_drewN ?_ _ | refine blk_drew ?_ | refine blk_alloc ?_ _)); exact BK198.out⟩, ⟨by repeat (first | (with_reducible first | exact HB.out | apply below_alloc | apply pw_below_drewN | apply below_drew1 | refine below_set ?_ GE198.out) | exact HB.out)⟩⟩
  case rest =>
   clear HC6
   try clear c1
   try clear p2
   try clear c4
   try clear c5
   try clear c10
   try clear c10b0
   try clear c10b1
   try clear c12
   try clear c12b0
   try clear c12b1
   try clear c12b2
   try clear hcz11_0
   try clear hcz11_1
   try clear hcz11_2
   try clear hcz11_3
   try clear hcz13_0
   try clear hcz13_1
   try clear hcz13_2
   try clear hcz13_3
   try clear hcz15_0
   try clear hcz15_1
   try clear hcz15_2
   try clear hcz15_3
   try clear hcz9_0
   try clear hcz9_1
   try clear hcz9_2
   try clear hcz9_3
   try clear hfz11_0
   try clear hfz11_1
   try clear hfz11_2
   try clear hfz11_3
   try clear hfz13_0
   try clear hfz13_1
   try clear hfz13_2
   try clear hfz13_3
   try clear hfz15_0
   try clear hfz15_1
   try clear hfz15_2
   try clear hfz15_3
   try clear hfz9_0
   try clear hfz9_1
   try clear hfz9_2
   try clear hfz9_3
   obtain ⟨kq, x33_5, rfl, HA, HJ5, BK198, HB⟩ := hcut
   cases kq with
   | zero => exact absurd HA.out (by simp [assessorlaw51_DeadlinesKnots.j0])
   | succ kj5 =>
    have H := HA.out
    clear HA
    simp only [assessorlaw51_DeadlinesKnots.j0] at H
    by_cases c17 : x33_5 = true
    ·subst c17
     have H1 : (some true) = some r := by rw [if_pos rfl] at H; exact H
     clear H
     have H := H1
     clear H1
     obtain rfl := Option.some.inj H
     go_wp2
     go_ret
     exact ⟨by first | rfl | (simp [errW_none, errW_some] <;> rfl) | (simp [*, errW_none, errW_some] <;> rfl), by repeat (first | (with_reducible first | exact HB.out | apply below_alloc | apply pw_below_drewN | apply below_drew1 | refine below_set ?_ GE198.out) | exact HB.out)⟩
    ·replace c17 := Bool.eq_false_iff.mpr c17
     subst c17
     have H1 : (if (l0_3.length : Int) = 0 then (none) else (if 0 ≤ (Int.tmod (wrap64 (a1)) (l0_3.length : Int)) then (if (Int.tmod (wrap64 (a1)) (l0_3.length : Int)) < (l0_3.length : Int) then ((assessorref46_Make.f kj5 ((rd_T34 l0_3 (Int.tmod (wrap64 (a1)) (l0_3.length : Int))).f1) 100).bind fun bt203 => (if bt203.2.2 = 0 then (if ((rd_T34 l0_3 (Int.tmod (wrap64 (a1)) (l0_3.length : Int))).f0) > 0 then ((deadlines_Factor.f kj5 a0_0 a0_1 true l0_3 ((rd_T34 l0_3 (Int.tmod (wrap64 (a1)) (l0_3.length : Int))).f0)).bind fun bt207 => (assessorlaw51_DeadlinesKnots.j1 kj5 a2 (Int.tmod (wrap64 (a1)) (l0_3.length : Int)) bt203.2.2 (!(bt207.1 == bt203.1) || (!(bt207.2 == bt203.2.1))) a0_0 a0_1 true l0_3 ((rd_T34 l0_3 (Int.tmod (wrap64 (a1)) (l0_3.length : Int))).f0) ((rd_T34 l0_3 (Int.tmod (wrap64 (a1)) (l0_3.length : Int))).f1) bt203.1 bt203.2.1)) else (assessorlaw51_DeadlinesKnots.j1 kj5 a2 (Int.tmod (wrap64 (a1)) (l0_3.length : Int)) bt203.2.2 false a0_0 a0_1 true l0_3 ((rd_T34 l0_3 (Int.tmod (wrap64 (a1)) (l0_3.length : Int))).f0) ((rd_T34 l0_3 (Int.tmod (wrap64 (a1)) (l0_3.length : Int))).f1) bt203.1 bt203.2.1)) else (assessorlaw51_DeadlinesKnots.j1 kj5 a2 (Int.tmod (wrap64 (a1)) (l0_3.length : Int)) bt203.2.2 true a0_0 a0_1 true l0_3 ((rd_T34 l0_3 (Int.tmod (wrap64 (a1)) (l0_3.length : Int))).f0) ((rd_T34 l0_3 (Int.tmod (wrap64 (a1)) (l0_3.length : Int))).f1) bt203.1 bt203.2.1))) else (none)) else (none))) = some r := by rw [if_neg (show ¬ (false = true) by decide)] at H; exact H
     clear H
     have H := H1
     clear H1
     by_cases c18 : (l0_3.length : Int) = 0
     ·rw [if_pos c18] at H
      exact absurd H (by simp)
     ·rw [if_neg c18] at H
      have c18b0 : ((l0_3.length : Int) == 0) = false := beq_eq_false_iff_ne.mpr c18
      have c18b1 : ((l0_3.length : Int) != 0) = true := bne_iff_ne.mpr c18
      have c18b2 : ¬ (l0_3 = []) := fun h_ => c18 (by rw [h_]; rfl)
      obtain ⟨ji19, hji19⟩ : ∃ j_ : Int, (Int.tmod (wrap64 (a1)) (l0_3.length : Int)) = j_ := ⟨_, rfl⟩
      replace H : (if 0 ≤ (ji19) then (if (ji19) < (l0_3.length : Int) then ((assessorref46_Make.f kj5 ((rd_T34 l0_3 (ji19)).f1) 100).bind fun bt203 => (if bt203.2.2 = 0 then (if ((rd_T34 l0_3 (ji19)).f0) > 0 then ((deadlines_Factor.f kj5 a0_0 a0_1 true l0_3 ((rd_T34 l0_3 (ji19)).f0)).bind fun bt207 => (assessorlaw51_DeadlinesKnots.j1 kj5 a2 ji19 bt203.2.2 (!(bt207.1 == bt203.1) || (!(bt207.2 == bt203.2.1))) a0_0 a0_1 true l0_3 ((rd_T34 l0_3 (ji19)).f0) ((rd_T34 l0_3 (ji19)).f1) bt203.1 bt203.2.1)) else (assessorlaw51_DeadlinesKnots.j1 kj5 a2 ji19 bt203.2.2 false a0_0 a0_1 true l0_3 ((rd_T34 l0_3 (ji19)).f0) ((rd_T34 l0_3 (ji19)).f1) bt203.1 bt203.2.1)) else (assessorlaw51_DeadlinesKnots.j1 kj5 a2 ji19 bt203.2.2 true a0_0 a0_1 true l0_3 ((rd_T34 l0_3 (ji19)).f0) ((rd_T34 l0_3 (ji19)).f1) bt203.1 bt203.2.1))) else (none)) else (none)) = some r := by first | (rw [hji19] at H; exact H) | (simp only [hji19] at H ⊢; exact H)
      by_cases c20 : 0 ≤ (ji19)
      ·rw [if_pos c20] at H
       have c20b0 : decide (0 ≤ (ji19)) = true := decide_eq_true c20
       clear c20
       by_cases c21 : (ji19) < (l0_3.length : Int)
       ·rw [if_pos c21] at H
        have c21b0 : decide ((ji19) < (l0_3.length : Int)) = true := decide_eq_true c21
        clear c21
        replace H := Option.bind_eq_some_iff.mp H
        obtain ⟨⟨t203, t204, t205⟩, A220, H⟩ := H
        replace H : (if t205 = 0 then (if ((rd_T34 l0_3 (ji19)).f0) > 0 then ((deadlines_Factor.f kj5 a0_0 a0_1 true l0_3 ((rd_T34 l0_3 (ji19)).f0)).bind fun bt207 => (assessorlaw51_DeadlinesKnots.j1 kj5 a2 ji19 t205 (!(bt207.1 == t203) || (!(bt207.2 == t204))) a0_0 a0_1 true l0_3 ((rd_T34 l0_3 (ji19)).f0) ((rd_T34 l0_3 (ji19)).f1) t203 t204)) else (assessorlaw51_DeadlinesKnots.j1 kj5 a2 ji19 t205 false a0_0 a0_1 true l0_3 ((rd_T34 l0_3 (ji19)).f0) ((rd_T34 l0_3 (ji19)).f1) t203 t204)) else (assessorlaw51_DeadlinesKnots.j1 kj5 a2 ji19 t205 true a0_0 a0_1 true l0_3 ((rd_T34 l0_3 (ji19)).f0) ((rd_T34 l0_3 (ji19)).f1) t203 t204)) = some r := H
        have A22 := Aside0.mk A220
        clear A220
        have HC23 := Aside0.mk H
        clear H
        have hcz24_0 : wc.cell? ⟨gb198, 0, none⟩ = some (.int .i64 a0_0) := (blk_cell BK198.out 0).trans rfl
        have hcz24_1 : wc.cell? ⟨gb198, 1, none⟩ = some (.int .i64 a0_1) := (blk_cell BK198.out 1).trans rfl
        have hcz24_2 : wc.cell? ⟨gb198, 2, none⟩ = some (.bool true) := (blk_cell BK198.out 2).trans rfl
        have hcz24_3 : wc.cell? ⟨gb198, 3, none⟩ = some (.slice A0_3 l0_3.length c0_3) := (blk_cell BK198.out 3).trans rfl
        have hfz24_0 := blk_frozen BK198.out 0
        have hfz24_1 := blk_frozen BK198.out 1
        have hfz24_2 := blk_frozen BK198.out 2
        have hfz24_3 := blk_frozen BK198.out 3
        have p201 : 0 ≤ ((ji19) : Int) := of_decide_eq_true (by first | (with_reducible assumption) | assumption)
        have q201 : (ji19) < (l0_3.length : Int) := of_decide_eq_true (by first | (with_reducible assumption) | assumption)
        obtain ⟨ad201, e201, hx201_0, hx201_1⟩ := at_T34 HR0_3.out (ji19) p201 q201
        cases e201
        replace hx201_0 := (HB.out.cell (World.block_lt_of_cell? w _ hx201_0)).trans hx201_0
        replace hx201_1 := (HB.out.cell (World.block_lt_of_cell? w _ hx201_1)).trans hx201_1
        replace p201 := eq_true p201
        replace q201 := eq_true q201
        go_upto_region 9 with (first | ((with_reducible refine gate_dst (N := 8) rfl ?_); (try (refine gate_guard (by rfl) ?_; dsimp only)); refine box_event ?hg (N := 8) ?hd (cs := #[.int .i64 0, .int .i64 0]) (t := 34) ?hr ?_; (case hd => rfl); (case hg => rfl); (case hr => first | (go_simp; done) | (go_simp; rfl)); intro gb202 hg w25 hbox hb; have n0_ := Aside0.mk (blk_below (g := gb198) (o := .cells #[.int .i64 a0_0, .int .i64 a0_1, .bool true, .slice (some ad201) l0_3.length c0_3] 24 (0, 0)) (by (with_reducible repeat (first | refine blk_drewN ?_ _ | refine blk_drew ?_ | refine blk_alloc ?_ _)); exact BK198.out) hb); have n1_ := Aside0.mk (below_step (by repeat (first | (with_reducible first | exact HB.out | apply below_alloc | apply pw_below_drewN | apply below_drew1 | refine below_set ?_ GE198.out) | exact HB.out)) hb); have n2_ := Aside0.mk (hbox); have n3_ := Aside0.mk ((by rw [hg]; exact (below_size (by repeat (first | (with_reducible first | exact HB.out | apply below_alloc | apply pw_below_drewN | apply below_drew1 | refine below_set ?_ GE198.out) | exact HB.out))) : w.heap.size ≤ gb202)); have n4_ := Aside0.mk ((by rw [hg]; exact (below_size (by repeat (first | (with_reducible first | exact HB.out | apply below_alloc | apply pw_below_drewN | apply below_drew1 | refine below_set ?_ GE198.out) | exact HB.out))) : w.heap.size ≤ gb202)); have n5_ := Aside0.mk ((by rw [hg]; exact Nat.ne_of_lt (blk_lt (g := gb198) (o := .cells #[.int .i64 a0_0, .int .i64 a0_1, .bool true, .slice (some ad201) l0_3.length c0_3] 24 (0, 0)) (by (with_reducible repeat (first | refine blk_drewN ?_ _ | refine blk_drew ?_ | refine blk_alloc ?_ _)); exact BK198.out)) : gb198 ≠ gb202)); have n6_ := Aside0.mk ((by rw [hg]; exact Nat.ne_of_gt (blk_lt (g := gb198) (o := .cells #[.int .i64 a0_0, .int .i64 a0_1, .bool true, .slice (some ad201) l0_3.length c0_3] 24 (0, 0)) (by (with_reducible repeat (first | refine blk_drewN ?_ _ | refine blk_drew ?_ | refine blk_alloc ?_ _)); exact BK198.out)) : gb202 ≠ gb198)); clear BK198; clear HB; have BK198 := n0_; have HB := n1_; have BK202 := n2_; have GW202 := n3_; have GE202 := n4_; have NB198_202 := n5_; have NB202_198 := n6_; clear n0_ n1_ n2_ n3_ n4_ n5_ n6_; clear hb hbox hg; have hnb26 := NB202_198.out; have hnc26 := NB198_202.out; have hcz27_0 : w25.cell? ⟨gb202, 0, none⟩ = some (.int .i64 0) := (blk_cell BK202.out 0).trans rfl; have hcz27_1 : w25.cell? ⟨gb202, 1, none⟩ = some (.int .i64 0) := (blk_cell BK202.out 1).trans rfl; have hfz27_0 := blk_frozen BK202.out 0; have hfz27_1 := blk_frozen BK202.out 1) | ((with_reducible refine gate_callee (f := 14) rfl ?_); refine goesL_ (some 48) rfl rfl Try.func14 (by kernel_rfl) rfl #[.int .i64 ((rd_T34 l0_3 (ji19)).f1), .int .i64 100] rfl (by (try simp only [List.map_toArray, List.map_cons, List.map_nil]); first | done | (simp only [hji19]; rfl) | rfl | (simp only [List.length_drop, List.length_take]; rfl)) ?_; (with_reducible refine (assessorref46_Make.calls kj5 ((rd_T34 l0_3 (ji19)).f1) 100 t203 t204 t205 _ A22.out).mono ?_); rintro e w28 ⟨rfl, hb⟩; refine ⟨_, rfl, ?_⟩; have n0_ := Aside0.mk (blk_below (g := gb198) (o := .cells #[.int .i64 a0_0, .int .i64 a0_1, .bool true, .slice (some ad201) l0_3.length c0_3] 24 (0, 0)) (by (with_reducible repeat (first | refine blk_drewN ?_ _ | refine blk_drew ?_ | refine blk_alloc ?_ _)); refine blk_far ?_ NB198_202.out _; (with_reducible repeat (first | refine blk_drewN ?_ _ | refine blk_drew ?_ | refine blk_alloc ?_ _)); refine blk_far ?_ NB198_202.out _; (with_reducible repeat (first | refine blk_drewN ?_ _ | refine blk_drew ?_ | refine blk_alloc ?_ _)); exact BK198.out) hb); have n1_ := Aside0.mk (blk_below (g := gb202) (o := .cells #[.int .i64 ((rd_T34 l0_3 (ji19)).f0), .int .i64 ((rd_T34 l0_3 (ji19)).f1)] 34 (0, 0)) (by (with_reducible repeat (first | refine blk_drewN ?_ _ | refine blk_drew ?_ | refine blk_alloc ?_ _)); refine blk_put (cs := #[.int .i64 ((rd_T34 l0_3 (ji19)).f0), .int .i64 0]) ?_ 1 _ rfl; (with_reducible repeat (first | refine blk_drewN ?_ _ | refine blk_drew ?_ | refine blk_alloc ?_ _)); refine blk_put (cs := #[.int .i64 0, .int .i64 0]) ?_ 0 _ rfl; (with_reducible repeat (first | refine blk_drewN ?_ _ | refine blk_drew ?_ | refine blk_alloc ?_ _)); exact BK202.out) hb); have n2_ := Aside0.mk (below_step (by repeat (first | (with_reducible first | exact HB.out | apply below_alloc | apply pw_below_drewN | apply below_drew1 | refine below_set ?_ GE198.out | refine below_set ?_ GE202.out) | exact HB.out)) hb); clear BK198; clear BK202; clear HB; have BK198 := n0_; have BK202 := n1_; have HB := n2_; clear n0_ n1_ n2_; (try clear hb); (try clear hb2); (try clear hk); (try clear hi)) | ((with_reducible refine gate_dst (N := 9) rfl ?_); (try (refine gate_guard (by rfl) ?_; dsimp only)); refine box_event ?hg (N := 9) ?hd (cs := #[.int .i64 0, .int .i64 0]) (t := 27) ?hr ?_; (case hd => rfl); (case hg => rfl); (case hr => first | (go_simp; done) | (go_simp; rfl)); intro gb206 hg w29 hbox hb; have n0_ := Aside0.mk (blk_below (g := gb198) (o := .cells #[.int .i64 a0_0, .int .i64 a0_1, .bool true, .slice (some ad201) l0_3.length c0_3] 24 (0, 0)) (by (with_reducible repeat (first | refine blk_drewN ?_ _ | refine blk_drew ?_ | refine blk_alloc ?_ _)); exact BK198.out) hb); have n1_ := Aside0.mk (blk_below (g := gb202) (o := .cells #[.int .i64 ((rd_T34 l0_3 (ji19)).f0), .int .i64 ((rd_T34 l0_3 (ji19)).f1)] 34 (0, 0)) (by (with_reducible repeat (first | refine blk_drewN ?_ _ | refine blk_drew ?_ | refine blk_alloc ?_ _)); exact BK202.out) hb); have n2_ := Aside0.mk (below_step (by repeat (first | (with_reducible first | exact HB.out | apply below_alloc | apply pw_below_drewN | apply below_drew1 | refine below_set ?_ GE198.out | refine below_set ?_ GE202.out) | exact HB.out)) hb); have n3_ := Aside0.mk (hbox); have n4_ := Aside0.mk ((by rw [hg]; exact (below_size (by repeat (first | (with_reducible first | exact HB.out | apply below_alloc | apply pw_below_drewN | apply below_drew1 | refine below_set ?_ GE198.out | refine below_set ?_ GE202.out) | exact HB.out))) : w.heap.size ≤ gb206)); have n5_ := Aside0.mk ((by rw [hg]; exact (below_size (by repeat (first | (with_reducible first | exact HB.out | apply below_alloc | apply pw_below_drewN | apply below_drew1 | refine below_set ?_ GE198.out | refine below_set ?_ GE202.out) | exact HB.out))) : w.heap.size ≤ gb206)); have n6_ := Aside0.mk ((by rw [hg]; exact Nat.ne_of_lt (blk_lt (g := gb198) (o := .cells #[.int .i64 a0_0, .int .i64 a0_1, .bool true, .slice (some ad201) l0_3.length c0_3] 24 (0, 0)) (by (with_reducible repeat (first | refine blk_drewN ?_ _ | refine blk_drew ?_ | refine blk_alloc ?_ _)); exact BK198.out)) : gb198 ≠ gb206)); have n7_ := Aside0.mk ((by rw [hg]; exact Nat.ne_of_gt (blk_lt (g := gb198) (o := .cells #[.int .i64 a0_0, .int .i64 a0_1, .bool true, .slice (some ad201) l0_3.length c0_3] 24 (0, 0)) (by (with_reducible repeat (first | refine blk_drewN ?_ _ | refine blk_drew ?_ | refine blk_alloc ?_ _)); exact BK198.out)) : gb206 ≠ gb198)); have n8_ := Aside0.mk ((by rw [hg]; exact Nat.ne_of_lt (blk_lt (g := gb202) (o := .cells #[.int .i64 ((rd_T34 l0_3 (ji19)).f0), .int .i64 ((rd_T34 l0_3 (ji19)).f1)] 34 (0, 0)) (by (with_reducible repeat (first | refine blk_drewN ?_ _ | refine blk_drew ?_ | refine blk_alloc ?_ _)); exact BK202.out)) : gb202 ≠ gb206)); have n9_ := Aside0.mk ((by rw [hg]; exact Nat.ne_of_gt (blk_lt (g := gb202) (o := .cells #[.int .i64 ((rd_T34 l0_3 (ji19)).f0), .int .i64 ((rd_T34 l0_3 (ji19)).f1)] 34 (0, 0)) (by (with_reducible repeat (first | refine blk_drewN ?_ _ | refine blk_drew ?_ | refine blk_alloc ?_ _)); exact BK202.out)) : gb206 ≠ gb202)); clear BK198; clear BK202; clear HB; have BK198 := n0_; have BK202 := n1_; have HB := n2_; have BK206 := n3_; have GW206 := n4_; have GE206 := n5_; have NB198_206 := n6_; have NB206_198 := n7_; have NB202_206 := n8_; have NB206_202 := n9_; clear n0_ n1_ n2_ n3_ n4_ n5_ n6_ n7_ n8_ n9_; clear hb hbox hg; have hnb30 := NB206_198.out; have hnc30 := NB198_206.out; have hnb31 := NB206_202.out; have hnc31 := NB202_206.out; have hcz32_0 : w29.cell? ⟨gb206, 0, none⟩ = some (.int .i64 0) := (blk_cell BK206.out 0).trans rfl; have hcz32_1 : w29.cell? ⟨gb206, 1, none⟩ = some (.int .i64 0) := (blk_cell BK206.out 1).trans rfl; have hfz32_0 := blk_frozen BK206.out 0; have hfz32_1 := blk_frozen BK206.out 1))
        (try simp only [Act.put, List.setIfInBounds_toArray, List.set_cons_zero, List.set_cons_succ])
        go_cut [65] (fun v65 wc => ∃ (kq : Nat) (x65_22 : Bool), v65 = .bool x65_22 ∧ Aside0 (assessorlaw51_DeadlinesKnots.j1 kq a2 ji19 t205 x65_22 a0_0 a0_1 true l0_3 ((rd_T34 l0_3 (ji19)).f0) ((rd_T34 l0_3 (ji19)).f1) t203 t204 = some r) ∧ Aside0 (kq ≤ kj5) ∧ Aside0 (wc.heap[gb198]? = some (.cells #[.int .i64 a0_0, .int .i64 a0_1, .bool true, (.slice (some ad201) l0_3.length c0_3)] 24 (0, 0))) ∧ Aside0 (wc.heap[gb202]? = some (.cells #[.int .i64 ((rd_T34 l0_3 (ji19)).f0), .int .i64 ((rd_T34 l0_3 (ji19)).f1)] 34 (0, 0))) ∧ Aside0 (wc.heap[gb206]? = some (.cells #[.int .i64 t203, .int .i64 t204] 27 (0, 0))) ∧ Aside0 (Below w.heap.size w wc))
        case first =>
         have H := HC23.out
         clear HC23
         by_cases c33 : t205 = 0
         ·rw [if_pos c33] at H
          have c33b0 : (t205 == 0) = true := beq_iff_eq.mpr c33
          have c33b1 : (t205 != 0) = false := bne_eq_false_iff_eq.mpr c33
          clear c33
          (first | rw [c33b0] | (simp only [i64_w, i32_w]; rw [c33b0]) | skip)
          by_cases c34 : ((rd_T34 l0_3 (ji19)).f0) > 0
          ·rw [if_pos c34] at H
           have c34b0 : decide (0 < ((rd_T34 l0_3 (ji19)).f0)) = true := decide_eq_true c34
           clear c34
           replace H := Option.bind_eq_some_iff.mp H
           obtain ⟨⟨t207, t208⟩, A350, H⟩ := H
           replace H : (assessorlaw51_DeadlinesKnots.j1 kj5 a2 ji19 t205 (!(t207 == t203) || (!(t208 == t204))) a0_0 a0_1 true l0_3 ((rd_T34 l0_3 (ji19)).f0) ((rd_T34 l0_3 (ji19)).f1) t203 t204) = some r := H
           have A35 := Aside0.mk A350
           clear A350
           have H' := Aside0.mk H
           clear H
           try go_wp2
           have n0_ : Aside0 (((w29.setCell ⟨gb206, 0, none⟩ (.int .i64 t203)).setCell ⟨gb206, 1, none⟩ (.int .i64 t204)).heap[gb198]? = some (.cells #[.int .i64 a0_0, .int .i64 a0_1, .bool true, .slice (some ad201) l0_3.length c0_3] 24 (0, 0))) := ⟨by (with_reducible repeat (first | refine blk_drewN ?_ _ | refine blk_drew ?_ | refine blk_alloc ?_ _)); refine blk_far ?_ NB198_206.out _; (with_reducible repeat (first | refine blk_drewN ?_ _ | refine blk_drew ?_ | refine blk_alloc ?_ _)); refine blk_far ?_ NB198_206.out _; (with_reducible repeat (first | refine blk_drewN ?_ _ | refine blk_drew ?_ | refine blk_alloc ?_ _)); exact BK198.out⟩
           have n1_ : Aside0 (((w29.setCell ⟨gb206, 0, none⟩ (.int .i64 t203)).setCell ⟨gb206, 1, none⟩ (.int .i64 t204)).heap[gb202]? = some (.cells #[.int .i64 ((rd_T34 l0_3 (ji19)).f0), .int .i64 ((rd_T34 l0_3 (ji19)).f1)] 34 (0, 0))) := ⟨by (with_reducible repeat (first | refine blk_drewN ?_ _ | refine blk_drew ?_ | refine blk_alloc ?_ _)); refine blk_far ?_ NB202_206.out _; (with_reducible repeat (first | refine blk_drewN ?_ _ | refine blk_drew ?_ | refine blk_alloc ?_ _)); refine blk_far ?_ NB202_206.out _; (with_reducible repeat (first | refine blk_drewN ?_ _ | refine blk_drew ?_ | refine blk_alloc ?_ _)); exact BK202.out⟩
           have n2_ : Aside0 (((w29.setCell ⟨gb206, 0, none⟩ (.int .i64 t203)).setCell ⟨gb206, 1, none⟩ (.int .i64 t204)).heap[gb206]? = some (.cells #[.int .i64 t203, .int .i64 t204] 27 (0, 0))) := ⟨by (with_reducible repeat (first | refine blk_drewN ?_ _ | refine blk_drew ?_ | refine blk_alloc ?_ _)); refine blk_put (cs := #[.int .i64 t203, .int .i64 0]) ?_ 1 _ rfl; (with_reducible repeat (first | refine blk_drewN ?_ _ | refine blk_drew ?_ | refine blk_alloc ?_ _)); refine blk_put (cs := #[.int .i64 0, .int .i64 0]) ?_ 0 _ rfl; (with_reducible repeat (first | refine blk_drewN ?_ _ | refine blk_drew ?_ | refine blk_alloc ?_ _)); exact BK206.out⟩
           have n3_ : Aside0 (Below w.heap.size w ((w29.setCell ⟨gb206, 0, none⟩ (.int .i64 t203)).setCell ⟨gb206, 1, none⟩ (.int .i64 t204))) := ⟨by repeat (first | (with_reducible first | exact HB.out | apply below_alloc | apply pw_below_drewN | apply below_drew1 | refine below_set ?_ GE198.out | refine below_set ?_ GE202.out | refine below_set ?_ GE206.out) | exact HB.out)⟩
           (try clear BK198)
           (try clear BK202)
           (try clear BK206)
           (try clear HB)
           generalize ((w29.setCell ⟨gb206, 0, none⟩ (.int .i64 t203)).setCell ⟨gb206, 1, none⟩ (.int .i64 t204)) = w36 at n0_ n1_ n2_ n3_ ⊢
           have BK198 := n0_
           have BK202 := n1_
           have BK206 := n2_
           have HB := n3_
           clear n0_ n1_ n2_ n3_
           have n0_ := Aside0.mk (blk_drew BK198.out)
           have n1_ := Aside0.mk (blk_drew BK202.out)
           have n2_ := Aside0.mk (blk_drew BK206.out)
           have n3_ := Aside0.mk (below_drew1 HB.out)
           clear BK198
           clear BK202
           clear BK206
           clear HB
           have BK198 := n0_
           have BK202 := n1_
           have BK206 := n2_
           have HB := n3_
           clear n0_ n1_ n2_ n3_
           refine start_ (n := 15) (S := fun w' => w'.cell? ⟨gb202, 0, none⟩ = some (.int .i64 ((rd_T34 l0_3 (ji19)).f0)) ∧ w'.cell? ⟨gb202, 1, none⟩ = some (.int .i64 ((rd_T34 l0_3 (ji19)).f1)) ∧ w'.cell? ⟨gb198, 0, none⟩ = some (.int .i64 a0_0) ∧ w'.cell? ⟨gb198, 1, none⟩ = some (.int .i64 a0_1) ∧ w'.cell? ⟨gb198, 2, none⟩ = some (.bool true) ∧ w'.cell? ⟨gb198, 3, none⟩ = some (.slice (some ad201) l0_3.length c0_3) ∧ w'.cell? ⟨gb206, 0, none⟩ = some (.int .i64 t203) ∧ w'.cell? ⟨gb206, 1, none⟩ = some (.int .i64 t204)) (ds := []) #[false, false, false, false, false, false, false, false, false, false, false, false, false, false, false] (by kernel_rfl) rfl rfl ⟨(blk_cell BK202.out 0).trans rfl, (blk_cell BK202.out 1).trans rfl, (blk_cell BK198.out 0).trans rfl, (blk_cell BK198.out 1).trans rfl, (blk_cell BK198.out 2).trans rfl, (blk_cell BK198.out 3).trans rfl, (blk_cell BK206.out 0).trans rfl, (blk_cell BK206.out 1).trans rfl⟩ (fun hHeld => ?_); refine with_tabW assessorlaw51_DeadlinesKnots.tab9 assessorlaw51_DeadlinesKnots.bits9 (fun HT_ HW_ => ?_)
           generalize w36.drew = w37 at BK198 BK202 BK206 HB hHeld ⊢
           refine pure_ (i := 0) (N := some 51) (v := ?_) (a' := ?_) #[true, false, false, false, false, false, false, false, false, false, false, false, false, false, false] rfl rfl (any_of HT_.out (by kernel_rfl)) (fun _ _ _ h => h) (Or.inl ⟨by rfl, ?_⟩) ?_ ?_
           rotate_left
           ·intro w'
            go_simp
            with_reducible rfl
           rotate_left
           ·simp only [Act.put, List.setIfInBounds_toArray, List.set_cons_zero, List.set_cons_succ, i64_w, i32_w]
            rfl
           refine pure_ (i := 1) (N := some 52) (v := ?_) (a' := ?_) #[true, true, false, false, false, false, false, false, false, false, false, false, false, false, false] rfl rfl (any_of HT_.out (by kernel_rfl)) (fun _ _ _ h => h) (Or.inl ⟨by rfl, ?_⟩) ?_ ?_
           rotate_left
           ·intro w'
            go_simp
            with_reducible rfl
           rotate_left
           ·simp only [Act.put, List.setIfInBounds_toArray, List.set_cons_zero, List.set_cons_succ, i64_w, i32_w]
            rfl
           refine pure_ (i := 2) (N := some 53) (v := ?_) (a' := ?_) #[true, true, true, false, false, false, false, false, false, false, false, false, false, false, false] rfl rfl (any_of HT_.out (by kernel_rfl)) (fun _ _ _ h => h) (Or.inl ⟨by rfl, ?_⟩) ?_ ?_
           rotate_left
           ·intro w'
            go_simp
            with_reducible rfl
           rotate_left
           ·simp only [Act.put, List.setIfInBounds_toArray, List.set_cons_zero, List.set_cons_succ, i64_w, i32_w]
            rfl
           refine pure_ (i := 3) (N := some 54) (v := ?_) (a' := ?_) #[true, true, true, true, false, false, false, false, false, false, false, false, false, false, false] rfl rfl (any_of HT_.out (by kernel_rfl)) (fun _ _ _ h => h) (Or.inl ⟨by rfl, ?_⟩) ?_ ?_
           rotate_left
           ·intro w'
            go_simp
            with_reducible rfl
           rotate_left
           ·simp only [Act.put, List.setIfInBounds_toArray, List.set_cons_zero, List.set_cons_succ, i64_w, i32_w]
            rfl
           refine take_ (i := 4) (N := some 55) (v := ?_) (a' := ?_) #[true, true, true, true, true, false, false, false, false, false, false, false, false, false, false] rfl rfl (take_ofW HT_.out HW_.out (by kernel_rfl)) (fun _ _ _ h => h) (Or.inl ⟨by rfl, ?_⟩) hHeld ?_ ?_
           rotate_left
           ·rintro w' ⟨s0, s1, s2, s3, s4, s5, s6, s7⟩
            go_simp
            with_reducible rfl
           rotate_left
           ·simp only [Act.put, List.setIfInBounds_toArray, List.set_cons_zero, List.set_cons_succ, i64_w, i32_w]
            rfl
           refine pure_ (i := 5) (N := some 56) (v := ?_) (a' := ?_) #[true, true, true, true, true, true, false, false, false, false, false, false, false, false, false] rfl rfl (any_of HT_.out (by kernel_rfl)) (fun _ _ _ h => h) (Or.inl ⟨by rfl, ?_⟩) ?_ ?_
           rotate_left
           ·intro w'
            go_simp
            with_reducible rfl
           rotate_left
           ·simp only [Act.put, List.setIfInBounds_toArray, List.set_cons_zero, List.set_cons_succ, i64_w, i32_w]
            rfl
           refine pure_ (i := 6) (N := some 57) (v := ?_) (a' := ?_) #[true, true, true, true, true, true, true, false, false, false, false, false, false, false, false] rfl rfl (any_of HT_.out (by kernel_rfl)) (fun _ _ _ h => h) (Or.inl ⟨by rfl, ?_⟩) ?_ ?_
           rotate_left
           ·intro w'
            go_simp
            with_reducible rfl
           rotate_left
           ·simp only [Act.put, List.setIfInBounds_toArray, List.set_cons_zero, List.set_cons_succ, i64_w, i32_w]
            rfl
           refine pure_ (i := 8) (N := some 59) (v := ?_) (a' := ?_) #[true, true, true, true, true, true, true, false, true, false, false, false, false, false, false] rfl rfl (any_of HT_.out (by kernel_rfl)) (fun _ _ _ h => h) (Or.inl ⟨by rfl, ?_⟩) ?_ ?_
           rotate_left
           ·intro w'
            go_simp
            with_reducible rfl
           rotate_left
           ·simp only [Act.put, List.setIfInBounds_toArray, List.set_cons_zero, List.set_cons_succ, i64_w, i32_w]
            rfl
           refine take_ (i := 7) (N := some 58) (v := ?_) (a' := ?_) #[true, true, true, true, true, true, true, true, true, false, false, false, false, false, false] rfl rfl (take_ofW HT_.out HW_.out (by kernel_rfl)) (fun _ _ _ h => h) (Or.inl ⟨by rfl, ?_⟩) hHeld ?_ ?_
           rotate_left
           ·rintro w' ⟨s0, s1, s2, s3, s4, s5, s6, s7⟩
            go_simp
            with_reducible rfl
           rotate_left
           ·simp only [Act.put, List.setIfInBounds_toArray, List.set_cons_zero, List.set_cons_succ, i64_w, i32_w]
            rfl
           refine take_ (i := 9) (N := some 60) (v := ?_) (a' := ?_) #[true, true, true, true, true, true, true, true, true, true, false, false, false, false, false] rfl rfl (take_ofW HT_.out HW_.out (by kernel_rfl)) (fun _ _ _ h => h) (Or.inl ⟨by rfl, ?_⟩) hHeld ?_ ?_
           rotate_left
           ·rintro w' ⟨s0, s1, s2, s3, s4, s5, s6, s7⟩
            go_simp
            with_reducible rfl
           rotate_left
           ·simp only [Act.put, List.setIfInBounds_toArray, List.set_cons_zero, List.set_cons_succ, i64_w, i32_w]
            rfl
           refine take_ (i := 11) (N := some 62) (v := ?_) (a' := ?_) #[true, true, true, true, true, true, true, true, true, true, false, true, false, false, false] rfl rfl (take_ofW HT_.out HW_.out (by kernel_rfl)) (fun _ _ _ h => h) (Or.inl ⟨by rfl, ?_⟩) hHeld ?_ ?_
           rotate_left
           ·rintro w' ⟨s0, s1, s2, s3, s4, s5, s6, s7⟩
            go_simp
            with_reducible rfl
           rotate_left
           ·simp only [Act.put, List.setIfInBounds_toArray, List.set_cons_zero, List.set_cons_succ, i64_w, i32_w]
            rfl
           refine one_ (i := 10) (N := some 61) #[true, true, true, true, true, true, true, true, true, true, true, true, false, false, false] rfl rfl (one_of HT_.out (by kernel_rfl)) (by decide) (fun K hK => ?_)
           refine goes_ Try.func11 (by kernel_rfl) rfl #[.agg #[.int .i64 a0_0, .int .i64 a0_1, .bool true, .slice (some ad201) l0_3.length c0_3], .int .i64 ((rd_T34 l0_3 (ji19)).f0)] (by rfl) rfl rfl (by (try simp only [List.map_toArray, List.map_cons, List.map_nil]); first | done | (simp only [hji19]; rfl) | rfl | (simp only [List.length_drop, List.length_take]; rfl)) ?_
           with_reducible refine (deadlines_Factor.calls kj5 a0_0 a0_1 true _ _ l0_3 ((rd_T34 l0_3 (ji19)).f0) t207 t208 _ ?side1 ?side2 A35.out).mono ?_
           (case side1 => repeat (first | exact (Kd.C_below HR0_3.out HB.out) | (with_reducible refine Kd.C_alloc ?_ _) | (with_reducible refine Kd.C_drewN ?_ _) | (with_reducible refine Kd.C_drew ?_)))
           (case side2 => exact HC0_3.out)
           rintro e w38 ⟨rfl, hb⟩
           refine ⟨_, rfl, ?_⟩
           have n0_ := Aside0.mk (blk_below (g := gb198) (o := .cells #[.int .i64 a0_0, .int .i64 a0_1, .bool true, .slice (some ad201) l0_3.length c0_3] 24 (0, 0)) (by (with_reducible repeat (first | refine blk_drewN ?_ _ | refine blk_drew ?_ | refine blk_alloc ?_ _)); exact BK198.out) hb)
           have n1_ := Aside0.mk (blk_below (g := gb202) (o := .cells #[.int .i64 ((rd_T34 l0_3 (ji19)).f0), .int .i64 ((rd_T34 l0_3 (ji19)).f1)] 34 (0, 0)) (by (with_reducible repeat (first | refine blk_drewN ?_ _ | refine blk_drew ?_ | refine blk_alloc ?_ _)); exact BK202.out) hb)
           have n2_ := Aside0.mk (blk_below (g := gb206) (o := .cells #[.int .i64 t203, .int .i64 t204] 27 (0, 0)) (by (with_reducible repeat (first | refine blk_drewN ?_ _ | refine blk_drew ?_ | refine blk_alloc ?_ _)); exact BK206.out) hb)
           have n3_ := Aside0.mk (below_step (by repeat (first | (with_reducible first | exact HB.out | apply below_alloc | apply pw_below_drewN | apply below_drew1 | refine below_set ?_ GE198.out | refine below_set ?_ GE202.out | refine below_set ?_ GE206.out) | exact HB.out)) hb)
           clear BK198
           clear BK202
           clear BK206
           clear HB
           have BK198 := n0_
           have BK202 := n1_
           have BK206 := n2_
           have HB := n3_
           clear n0_ n1_ n2_ n3_
           (try clear hb)
           (try clear hb2)
           (try clear hk)
           (try clear hi)
           refine hK.out _ _ ⟨(blk_cell BK202.out 0).trans rfl, (blk_cell BK202.out 1).trans rfl, (blk_cell BK198.out 0).trans rfl, (blk_cell BK198.out 1).trans rfl, (blk_cell BK198.out 2).trans rfl, (blk_cell BK198.out 3).trans rfl, (blk_cell BK206.out 0).trans rfl, (blk_cell BK206.out 1).trans rfl⟩ (fun hHeld => ?_)
           clear hK K
           refine norm_ (a' := ?_) ?_ ?_
           rotate_left
           ·show Act.put _ (some 61) _ = _
            simp only [Act.put, List.setIfInBounds_toArray, List.set_cons_zero, List.set_cons_succ, i64_w, i32_w]
            rfl
           refine pure_ (i := 12) (N := some 63) (v := ?_) (a' := ?_) #[true, true, true, true, true, true, true, true, true, true, true, true, true, false, false] rfl rfl (any_of HT_.out (by kernel_rfl)) (fun _ _ _ h => h) (Or.inl ⟨by rfl, ?_⟩) ?_ ?_
           rotate_left
           ·intro w'
            go_simp
            with_reducible rfl
           rotate_left
           ·simp only [Act.put, List.setIfInBounds_toArray, List.set_cons_zero, List.set_cons_succ, i64_w, i32_w]
            rfl
           refine pure_ (i := 13) (N := some 64) (v := ?_) (a' := ?_) #[true, true, true, true, true, true, true, true, true, true, true, true, true, true, false] rfl rfl (any_of HT_.out (by kernel_rfl)) (fun _ _ _ h => h) (Or.inl ⟨by rfl, ?_⟩) ?_ ?_
           rotate_left
           ·intro w'
            go_simp
            with_reducible rfl
           rotate_left
           ·simp only [Act.put, List.setIfInBounds_toArray, List.set_cons_zero, List.set_cons_succ, i64_w, i32_w]
            rfl
           refine pure_ (i := 14) (N := some 65) (v := ?_) (a' := ?_) #[true, true, true, true, true, true, true, true, true, true, true, true, true, true, true] rfl rfl (any_of HT_.out (by kernel_rfl)) (fun _ _ _ h => h) (Or.inl ⟨by rfl, ?_⟩) ?_ ?_
           rotate_left
           ·intro w'
            go_simp
            with_reducible rfl
           rotate_left
           ·simp only [Act.put, List.setIfInBounds_toArray, List.set_cons_zero, List.set_cons_succ, i64_w, i32_w]
            rfl
           refine done_ (done_of HT_.out (by kernel_rfl)) ?_
           try go_wp2
           go_meet
           case rel => exact ⟨_, ((!(t207 == t203) || (!(t208 == t204)))), (by first | rfl | (simp; done) | (simp [*]; done)), H', ⟨by have := HJ5.out; first | omega | exact Nat.le_refl _⟩, ⟨by (with_reducible repeat (first | refine blk_drewN ?_ _ | refine blk_drew ?_ | refine blk_alloc ?_ _)); exact BK198.out⟩, ⟨by (with_reducible repeat (first | refine blk_drewN ?_ _ | refine blk_drew ?_ | refine blk_alloc ?_ _)); exact BK202.out⟩, ⟨by (with_reducible repeat (first | refine blk_drewN ?_ _ | refine blk_drew ?_ | refine blk_alloc ?_ _)); exact BK206.out⟩, ⟨by repeat (first | (with_reducible first | exact HB.out | apply below_alloc | apply pw_below_drewN | apply below_drew1 | refine below_set ?_ GE198.out | refine below_set ?_ GE202.out | refine below_set ?_ GE206.out) | exact HB.out)⟩⟩
          ·rw [if_neg c34] at H
           have c34b0 : decide (0 < ((rd_T34 l0_3 (ji19)).f0)) = false := decide_eq_false c34
           clear c34
           have H' := Aside0.mk H
           clear H
           try go_wp2
           have n0_ : Aside0 (((w29.setCell ⟨gb206, 0, none⟩ (.int .i64 t203)).setCell ⟨gb206, 1, none⟩ (.int .i64 t204)).heap[gb198]? = some (.cells #[.int .i64 a0_0, .int .i64 a0_1, .bool true, .slice (some ad201) l0_3.length c0_3] 24 (0, 0))) := ⟨by (with_reducible repeat (first | refine blk_drewN ?_ _ | refine blk_drew ?_ | refine blk_alloc ?_ _)); refine blk_far ?_ NB198_206.out _; (with_reducible repeat (first | refine blk_drewN ?_ _ | refine blk_drew ?_ | refine blk_alloc ?_ _)); refine blk_far ?_ NB198_206.out _; (with_reducible repeat (first | refine blk_drewN ?_ _ | refine blk_drew ?_ | refine blk_alloc ?_ _)); exact BK198.out⟩
           have n1_ : Aside0 (((w29.setCell ⟨gb206, 0, none⟩ (.int .i64 t203)).setCell ⟨gb206, 1, none⟩ (.int .i64 t204)).heap[gb202]? = some (.cells #[.int .i64 ((rd_T34 l0_3 (ji19)).f0), .int .i64 ((rd_T34 l0_3 (ji19)).f1)] 34 (0, 0))) := ⟨by (with_reducible repeat (first | refine blk_drewN ?_ _ | refine blk_drew ?_ | refine blk_alloc ?_ _)); refine blk_far ?_ NB202_206.out _; (with_reducible repeat (first | refine blk_drewN ?_ _ | refine blk_drew ?_ | refine blk_alloc ?_ _)); refine blk_far ?_ NB202_206.out _; (with_reducible repeat (first | refine blk_drewN ?_ _ | refine blk_drew ?_ | refine blk_alloc ?_ _)); exact BK202.out⟩
           have n2_ : Aside0 (((w29.setCell ⟨gb206, 0, none⟩ (.int .i64 t203)).setCell ⟨gb206, 1, none⟩ (.int .i64 t204)).heap[gb206]? = some (.cells #[.int .i64 t203, .int .i64 t204] 27 (0, 0))) := ⟨by (with_reducible repeat (first | refine blk_drewN ?_ _ | refine blk_drew ?_ | refine blk_alloc ?_ _)); refine blk_put (cs := #[.int .i64 t203, .int .i64 0]) ?_ 1 _ rfl; (with_reducible repeat (first | refine blk_drewN ?_ _ | refine blk_drew ?_ | refine blk_alloc ?_ _)); refine blk_put (cs := #[.int .i64 0, .int .i64 0]) ?_ 0 _ rfl; (with_reducible repeat (first | refine blk_drewN ?_ _ | refine blk_drew ?_ | refine blk_alloc ?_ _)); exact BK206.out⟩
           have n3_ : Aside0 (Below w.heap.size w ((w29.setCell ⟨gb206, 0, none⟩ (.int .i64 t203)).setCell ⟨gb206, 1, none⟩ (.int .i64 t204))) := ⟨by repeat (first | (with_reducible first | exact HB.out | apply below_alloc | apply pw_below_drewN | apply below_drew1 | refine below_set ?_ GE198.out | refine below_set ?_ GE202.out | refine below_set ?_ GE206.out) | exact HB.out)⟩
           (try clear BK198)
           (try clear BK202)
           (try clear BK206)
           (try clear HB)
           generalize ((w29.setCell ⟨gb206, 0, none⟩ (.int .i64 t203)).setCell ⟨gb206, 1, none⟩ (.int .i64 t204)) = w39 at n0_ n1_ n2_ n3_ ⊢
           have BK198 := n0_
           have BK202 := n1_
           have BK206 := n2_
           have HB := n3_
           clear n0_ n1_ n2_ n3_
           have n0_ := Aside0.mk (blk_drew BK198.out)
           have n1_ := Aside0.mk (blk_drew BK202.out)
           have n2_ := Aside0.mk (blk_drew BK206.out)
           have n3_ := Aside0.mk (below_drew1 HB.out)
           clear BK198
           clear BK202
           clear BK206
           clear HB
           have BK198 := n0_
           have BK202 := n1_
           have BK206 := n2_
           have HB := n3_
           clear n0_ n1_ n2_ n3_
           refine start_ (n := 15) (S := fun w' => w'.cell? ⟨gb202, 0, none⟩ = some (.int .i64 ((rd_T34 l0_3 (ji19)).f0)) ∧ w'.cell? ⟨gb202, 1, none⟩ = some (.int .i64 ((rd_T34 l0_3 (ji19)).f1))) (ds := []) #[false, false, false, false, false, false, false, false, false, false, false, false, false, false, false] (by kernel_rfl) rfl rfl ⟨(blk_cell BK202.out 0).trans rfl, (blk_cell BK202.out 1).trans rfl⟩ (fun hHeld => ?_); refine with_tabW assessorlaw51_DeadlinesKnots.tab9 assessorlaw51_DeadlinesKnots.bits9 (fun HT_ HW_ => ?_)
           generalize w39.drew = w40 at BK198 BK202 BK206 HB hHeld ⊢
           refine pure_ (i := 0) (N := some 51) (v := ?_) (a' := ?_) #[true, false, false, false, false, false, false, false, false, false, false, false, false, false, false] rfl rfl (any_of HT_.out (by kernel_rfl)) (fun _ _ _ h => h) (Or.inl ⟨by rfl, ?_⟩) ?_ ?_
           rotate_left
           ·intro w'
            go_simp
            with_reducible rfl
           rotate_left
           ·simp only [Act.put, List.setIfInBounds_toArray, List.set_cons_zero, List.set_cons_succ, i64_w, i32_w]
            rfl
           refine pure_ (i := 1) (N := some 52) (v := ?_) (a' := ?_) #[true, true, false, false, false, false, false, false, false, false, false, false, false, false, false] rfl rfl (any_of HT_.out (by kernel_rfl)) (fun _ _ _ h => h) (Or.inl ⟨by rfl, ?_⟩) ?_ ?_
           rotate_left
           ·intro w'
            go_simp
            with_reducible rfl
           rotate_left
           ·simp only [Act.put, List.setIfInBounds_toArray, List.set_cons_zero, List.set_cons_succ, i64_w, i32_w]
            rfl
           refine pure_ (i := 2) (N := some 53) (v := ?_) (a' := ?_) #[true, true, true, false, false, false, false, false, false, false, false, false, false, false, false] rfl rfl (any_of HT_.out (by kernel_rfl)) (fun _ _ _ h => h) (Or.inl ⟨by rfl, ?_⟩) ?_ ?_
           rotate_left
           ·intro w'
            go_simp
            with_reducible rfl
           rotate_left
           ·simp only [Act.put, List.setIfInBounds_toArray, List.set_cons_zero, List.set_cons_succ, i64_w, i32_w]
            rfl
           refine pure_ (i := 3) (N := some 54) (v := ?_) (a' := ?_) #[true, true, true, true, false, false, false, false, false, false, false, false, false, false, false] rfl rfl (any_of HT_.out (by kernel_rfl)) (fun _ _ _ h => h) (Or.inl ⟨by rfl, ?_⟩) ?_ ?_
           rotate_left
           ·intro w'
            go_simp
            with_reducible rfl
           rotate_left
           ·simp only [Act.put, List.setIfInBounds_toArray, List.set_cons_zero, List.set_cons_succ, i64_w, i32_w]
            rfl
           refine take_ (i := 4) (N := some 55) (v := ?_) (a' := ?_) #[true, true, true, true, true, false, false, false, false, false, false, false, false, false, false] rfl rfl (take_ofW HT_.out HW_.out (by kernel_rfl)) (fun _ _ _ h => h) (Or.inl ⟨by rfl, ?_⟩) hHeld ?_ ?_
           rotate_left
           ·rintro w' ⟨s0, s1⟩
            go_simp
            with_reducible rfl
           rotate_left
           ·simp only [Act.put, List.setIfInBounds_toArray, List.set_cons_zero, List.set_cons_succ, i64_w, i32_w]
            rfl
           refine pure_ (i := 5) (N := some 56) (v := ?_) (a' := ?_) #[true, true, true, true, true, true, false, false, false, false, false, false, false, false, false] rfl rfl (any_of HT_.out (by kernel_rfl)) (fun _ _ _ h => h) (Or.inl ⟨by rfl, ?_⟩) ?_ ?_
           rotate_left
           ·intro w'
            go_simp
            with_reducible rfl
           rotate_left
           ·simp only [Act.put, List.setIfInBounds_toArray, List.set_cons_zero, List.set_cons_succ, i64_w, i32_w]
            rfl
           refine pure_ (i := 6) (N := some 57) (v := ?_) (a' := ?_) #[true, true, true, true, true, true, true, false, false, false, false, false, false, false, false] rfl rfl (any_of HT_.out (by kernel_rfl)) (fun _ _ _ h => h) (Or.inl ⟨by rfl, ?_⟩) ?_ ?_
           rotate_left
           ·intro w'
            go_simp
            with_reducible rfl
           rotate_left
           ·simp only [Act.put, List.setIfInBounds_toArray, List.set_cons_zero, List.set_cons_succ, i64_w, i32_w]
            rfl
           refine pure_ (i := 7) (N := some 58) (v := undef) (a' := ?_) #[true, true, true, true, true, true, true, true, false, false, false, false, false, false, false] rfl rfl (any_of HT_.out (by kernel_rfl)) (fun _ _ _ h => h) (Or.inr ⟨by rfl, rfl⟩) ?_ ?_
           rotate_left
           ·simp only [Act.put, List.setIfInBounds_toArray, List.set_cons_zero, List.set_cons_succ, i64_w, i32_w]
            rfl
           refine pure_ (i := 8) (N := some 59) (v := undef) (a' := ?_) #[true, true, true, true, true, true, true, true, true, false, false, false, false, false, false] rfl rfl (any_of HT_.out (by kernel_rfl)) (fun _ _ _ h => h) (Or.inr ⟨by rfl, rfl⟩) ?_ ?_
           rotate_left
           ·simp only [Act.put, List.setIfInBounds_toArray, List.set_cons_zero, List.set_cons_succ, i64_w, i32_w]
            rfl
           refine pure_ (i := 9) (N := some 60) (v := undef) (a' := ?_) #[true, true, true, true, true, true, true, true, true, true, false, false, false, false, false] rfl rfl (any_of HT_.out (by kernel_rfl)) (fun _ _ _ h => h) (Or.inr ⟨by rfl, rfl⟩) ?_ ?_
           rotate_left
           ·simp only [Act.put, List.setIfInBounds_toArray, List.set_cons_zero, List.set_cons_succ, i64_w, i32_w]
            rfl
           refine pure_ (i := 10) (N := some 61) (v := undef) (a' := ?_) #[true, true, true, true, true, true, true, true, true, true, true, false, false, false, false] rfl rfl (any_of HT_.out (by kernel_rfl)) (fun _ _ _ h => h) (Or.inr ⟨by rfl, rfl⟩) ?_ ?_
           rotate_left
           ·simp only [Act.put, List.setIfInBounds_toArray, List.set_cons_zero, List.set_cons_succ, i64_w, i32_w]
            rfl
           refine pure_ (i := 11) (N := some 62) (v := undef) (a' := ?_) #[true, true, true, true, true, true, true, true, true, true, true, true, false, false, false] rfl rfl (any_of HT_.out (by kernel_rfl)) (fun _ _ _ h => h) (Or.inr ⟨by rfl, rfl⟩) ?_ ?_
           rotate_left
           ·simp only [Act.put, List.setIfInBounds_toArray, List.set_cons_zero, List.set_cons_succ, i64_w, i32_w]
            rfl
           refine pure_ (i := 12) (N := some 63) (v := undef) (a' := ?_) #[true, true, true, true, true, true, true, true, true, true, true, true, true, false, false] rfl rfl (any_of HT_.out (by kernel_rfl)) (fun _ _ _ h => h) (Or.inr ⟨by rfl, rfl⟩) ?_ ?_
           rotate_left
           ·simp only [Act.put, List.setIfInBounds_toArray, List.set_cons_zero, List.set_cons_succ, i64_w, i32_w]
            rfl
           refine pure_ (i := 13) (N := some 64) (v := ?_) (a' := ?_) #[true, true, true, true, true, true, true, true, true, true, true, true, true, true, false] rfl rfl (any_of HT_.out (by kernel_rfl)) (fun _ _ _ h => h) (Or.inl ⟨by rfl, ?_⟩) ?_ ?_
           rotate_left
           ·intro w'
            go_simp
            with_reducible rfl
           rotate_left
           ·simp only [Act.put, List.setIfInBounds_toArray, List.set_cons_zero, List.set_cons_succ, i64_w, i32_w]
            rfl
           refine pure_ (i := 14) (N := some 65) (v := ?_) (a' := ?_) #[true, true, true, true, true, true, true, true, true, true, true, true, true, true, true] rfl rfl (any_of HT_.out (by kernel_rfl)) (fun _ _ _ h => h) (Or.inl ⟨by rfl, ?_⟩) ?_ ?_
           rotate_left
           ·intro w'
            go_simp
            with_reducible rfl
           rotate_left
           ·simp only [Act.put, List.setIfInBounds_toArray, List.set_cons_zero, List.set_cons_succ, i64_w, i32_w]
            rfl
           refine done_ (done_of HT_.out (by kernel_rfl)) ?_
           try go_wp2
           go_meet
           case rel => exact ⟨_, (false), (by first | rfl | (simp; done) | (simp [*]; done)), H', ⟨by have := HJ5.out; first | omega | exact Nat.le_refl _⟩, ⟨by (with_reducible repeat (first | refine blk_drewN ?_ _ | refine blk_drew ?_ | refine blk_alloc ?_ _)); exact BK198.out⟩, ⟨by (with_reducible repeat (first | refine blk_drewN ?_ _ | refine blk_drew ?_ | refine blk_alloc ?_ _)); exact BK202.out⟩, ⟨by (with_reducible repeat (first | refine blk_drewN ?_ _ | refine blk_drew ?_ | refine blk_alloc ?_ _)); exact BK206.out⟩, ⟨by repeat (first | (with_reducible first | exact HB.out | apply below_alloc | apply pw_below_drewN | apply below_drew1 | refine below_set ?_ GE198.out | refine below_set ?_ GE202.out | refine below_set ?_ GE206.out) | exact HB.out)⟩⟩
         ·rw [if_neg c33] at H
          have c33b0 : (t205 == 0) = false := beq_eq_false_iff_ne.mpr c33
          have c33b1 : (t205 != 0) = true := bne_iff_ne.mpr c33
          (first | rw [c33b0] | (simp only [i64_w, i32_w]; rw [c33b0]) | skip)
          have H' := Aside0.mk H
          clear H
          try go_wp2
          have n0_ : Aside0 (((w29.setCell ⟨gb206, 0, none⟩ (.int .i64 t203)).setCell ⟨gb206, 1, none⟩ (.int .i64 t204)).heap[gb198]? = some (.cells #[.int .i64 a0_0, .int .i64 a0_1, .bool true, .slice (some ad201) l0_3.length c0_3] 24 (0, 0))) := ⟨by (with_reducible repeat (first | refine blk_drewN ?_ _ | refine blk_drew ?_ | refine blk_alloc ?_ _)); refine blk_far ?_ NB198_206.out _; (with_reducible repeat (first | refine blk_drewN ?_ _ | refine blk_drew ?_ | refine blk_alloc ?_ _)); refine blk_far ?_ NB198_206.out _; (with_reducible repeat (first | refine blk_drewN ?_ _ | refine blk_drew ?_ | refine blk_alloc ?_ _)); exact BK198.out⟩
          have n1_ : Aside0 (((w29.setCell ⟨gb206, 0, none⟩ (.int .i64 t203)).setCell ⟨gb206, 1, none⟩ (.int .i64 t204)).heap[gb202]? = some (.cells #[.int .i64 ((rd_T34 l0_3 (ji19)).f0), .int .i64 ((rd_T34 l0_3 (ji19)).f1)] 34 (0, 0))) := ⟨by (with_reducible repeat (first | refine blk_drewN ?_ _ | refine blk_drew ?_ | refine blk_alloc ?_ _)); refine blk_far ?_ NB202_206.out _; (with_reducible repeat (first | refine blk_drewN ?_ _ | refine blk_drew ?_ | refine blk_alloc ?_ _)); refine blk_far ?_ NB202_206.out _; (with_reducible repeat (first | refine blk_drewN ?_ _ | refine blk_drew ?_ | refine blk_alloc ?_ _)); exact BK202.out⟩
          have n2_ : Aside0 (((w29.setCell ⟨gb206, 0, none⟩ (.int .i64 t203)).setCell ⟨gb206, 1, none⟩ (.int .i64 t204)).heap[gb206]? = some (.cells #[.int .i64 t203, .int .i64 t204] 27 (0, 0))) := ⟨by (with_reducible repeat (first | refine blk_drewN ?_ _ | refine blk_drew ?_ | refine blk_alloc ?_ _)); refine blk_put (cs := #[.int .i64 t203, .int .i64 0]) ?_ 1 _ rfl; (with_reducible repeat (first | refine blk_drewN ?_ _ | refine blk_drew ?_ | refine blk_alloc ?_ _)); refine blk_put (cs := #[.int .i64 0, .int .i64 0]) ?_ 0 _ rfl; (with_reducible repeat (first | refine blk_drewN ?_ _ | refine blk_drew ?_ | refine blk_alloc ?_ _)); exact BK206.out⟩
          have n3_ : Aside0 (Below w.heap.size w ((w29.setCell ⟨gb206, 0, none⟩ (.int .i64 t203)).setCell ⟨gb206, 1, none⟩ (.int .i64 t204))) := ⟨by repeat (first | (with_reducible first | exact HB.out | apply below_alloc | apply pw_below_drewN | apply below_drew1 | refine below_set ?_ GE198.out | refine below_set ?_ GE202.out | refine below_set ?_ GE206.out) | exact HB.out)⟩
          (try clear BK198)
          (try clear BK202)
          (try clear BK206)
          (try clear HB)
          generalize ((w29.setCell ⟨gb206, 0, none⟩ (.int .i64 t203)).setCell ⟨gb206, 1, none⟩ (.int .i64 t204)) = w41 at n0_ n1_ n2_ n3_ ⊢
          have BK198 := n0_
          have BK202 := n1_
          have BK206 := n2_
          have HB := n3_
          clear n0_ n1_ n2_ n3_
          have n0_ := Aside0.mk (blk_drew BK198.out)
          have n1_ := Aside0.mk (blk_drew BK202.out)
          have n2_ := Aside0.mk (blk_drew BK206.out)
          have n3_ := Aside0.mk (below_drew1 HB.out)
          clear BK198
          clear BK202
          clear BK206
          clear HB
          have BK198 := n0_
          have BK202 := n1_
          have BK206 := n2_
          have HB := n3_
          clear n0_ n1_ n2_ n3_
          refine start_ (n := 15) (S := fun w' => True) (ds := []) #[false, false, false, false, false, false, false, false, false, false, false, false, false, false, false] (by kernel_rfl) rfl rfl trivial (fun hHeld => ?_); refine with_tabW assessorlaw51_DeadlinesKnots.tab9 assessorlaw51_DeadlinesKnots.bits9 (fun HT_ HW_ => ?_)
          generalize w41.drew = w42 at BK198 BK202 BK206 HB hHeld ⊢
          refine pure_ (i := 0) (N := some 51) (v := ?_) (a' := ?_) #[true, false, false, false, false, false, false, false, false, false, false, false, false, false, false] rfl rfl (any_of HT_.out (by kernel_rfl)) (fun _ _ _ h => h) (Or.inl ⟨by rfl, ?_⟩) ?_ ?_
          rotate_left
          ·intro w'
           go_simp
           with_reducible rfl
          rotate_left
          ·simp only [Act.put, List.setIfInBounds_toArray, List.set_cons_zero, List.set_cons_succ, i64_w, i32_w]
           rfl
          refine pure_ (i := 1) (N := some 52) (v := ?_) (a' := ?_) #[true, true, false, false, false, false, false, false, false, false, false, false, false, false, false] rfl rfl (any_of HT_.out (by kernel_rfl)) (fun _ _ _ h => h) (Or.inl ⟨by rfl, ?_⟩) ?_ ?_
          rotate_left
          ·intro w'
           go_simp
           with_reducible rfl
          rotate_left
          ·simp only [Act.put, List.setIfInBounds_toArray, List.set_cons_zero, List.set_cons_succ, i64_w, i32_w]
           rfl
          refine pure_ (i := 2) (N := some 53) (v := ?_) (a' := ?_) #[true, true, true, false, false, false, false, false, false, false, false, false, false, false, false] rfl rfl (any_of HT_.out (by kernel_rfl)) (fun _ _ _ h => h) (Or.inl ⟨by rfl, ?_⟩) ?_ ?_
          rotate_left
          ·intro w'
           go_simp
           with_reducible rfl
          rotate_left
          ·simp only [Act.put, List.setIfInBounds_toArray, List.set_cons_zero, List.set_cons_succ, i64_w, i32_w]
           rfl
          refine pure_ (i := 3) (N := some 54) (v := undef) (a' := ?_) #[true, true, true, true, false, false, false, false, false, false, false, false, false, false, false] rfl rfl (any_of HT_.out (by kernel_rfl)) (fun _ _ _ h => h) (Or.inr ⟨by rfl, rfl⟩) ?_ ?_
          rotate_left
          ·simp only [Act.put, List.setIfInBounds_toArray, List.set_cons_zero, List.set_cons_succ, i64_w, i32_w]
           rfl
          refine pure_ (i := 4) (N := some 55) (v := undef) (a' := ?_) #[true, true, true, true, true, false, false, false, false, false, false, false, false, false, false] rfl rfl (any_of HT_.out (by kernel_rfl)) (fun _ _ _ h => h) (Or.inr ⟨by rfl, rfl⟩) ?_ ?_
          rotate_left
          ·simp only [Act.put, List.setIfInBounds_toArray, List.set_cons_zero, List.set_cons_succ, i64_w, i32_w]
           rfl
          refine pure_ (i := 5) (N := some 56) (v := undef) (a' := ?_) #[true, true, true, true, true, true, false, false, false, false, false, false, false, false, false] rfl rfl (any_of HT_.out (by kernel_rfl)) (fun _ _ _ h => h) (Or.inr ⟨by rfl, rfl⟩) ?_ ?_
          rotate_left
          ·simp only [Act.put, List.setIfInBounds_toArray, List.set_cons_zero, List.set_cons_succ, i64_w, i32_w]
           rfl
          refine pure_ (i := 6) (N := some 57) (v := undef) (a' := ?_) #[true, true, true, true, true, true, true, false, false, false, false, false, false, false, false] rfl rfl (any_of HT_.out (by kernel_rfl)) (fun _ _ _ h => h) (Or.inr ⟨by rfl, rfl⟩) ?_ ?_
          rotate_left
          ·simp only [Act.put, List.setIfInBounds_toArray, List.set_cons_zero, List.set_cons_succ, i64_w, i32_w]
           rfl
          refine pure_ (i := 7) (N := some 58) (v := undef) (a' := ?_) #[true, true, true, true, true, true, true, true, false, false, false, false, false, false, false] rfl rfl (any_of HT_.out (by kernel_rfl)) (fun _ _ _ h => h) (Or.inr ⟨by rfl, rfl⟩) ?_ ?_
          rotate_left
          ·simp only [Act.put, List.setIfInBounds_toArray, List.set_cons_zero, List.set_cons_succ, i64_w, i32_w]
           rfl
          refine pure_ (i := 8) (N := some 59) (v := undef) (a' := ?_) #[true, true, true, true, true, true, true, true, true, false, false, false, false, false, false] rfl rfl (any_of HT_.out (by kernel_rfl)) (fun _ _ _ h => h) (Or.inr ⟨by rfl, rfl⟩) ?_ ?_
          rotate_left
          ·simp only [Act.put, List.setIfInBounds_toArray, List.set_cons_zero, List.set_cons_succ, i64_w, i32_w]
           rfl
          refine pure_ (i := 9) (N := some 60) (v := undef) (a' := ?_) #[true, true, true, true, true, true, true, true, true, true, false, false, false, false, false] rfl rfl (any_of HT_.out (by kernel_rfl)) (fun _ _ _ h => h) (Or.inr ⟨by rfl, rfl⟩) ?_ ?_
          rotate_left
          ·simp only [Act.put, List.setIfInBounds_toArray, List.set_cons_zero, List.set_cons_succ, i64_w, i32_w]
           rfl
          refine pure_ (i := 10) (N := some 61) (v := undef) (a' := ?_) #[true, true, true, true, true, true, true, true, true, true, true, false, false, false, false] rfl rfl (any_of HT_.out (by kernel_rfl)) (fun _ _ _ h => h) (Or.inr ⟨by rfl, rfl⟩) ?_ ?_
          rotate_left
          ·simp only [Act.put, List.setIfInBounds_toArray, List.set_cons_zero, List.set_cons_succ, i64_w, i32_w]
           rfl
          refine pure_ (i := 11) (N := some 62) (v := undef) (a' := ?_) #[true, true, true, true, true, true, true, true, true, true, true, true, false, false, false] rfl rfl (any_of HT_.out (by kernel_rfl)) (fun _ _ _ h => h) (Or.inr ⟨by rfl, rfl⟩) ?_ ?_
          rotate_left
          ·simp only [Act.put, List.setIfInBounds_toArray, List.set_cons_zero, List.set_cons_succ, i64_w, i32_w]
           rfl
          refine pure_ (i := 12) (N := some 63) (v := undef) (a' := ?_) #[true, true, true, true, true, true, true, true, true, true, true, true, true, false, false] rfl rfl (any_of HT_.out (by kernel_rfl)) (fun _ _ _ h => h) (Or.inr ⟨by rfl, rfl⟩) ?_ ?_
          rotate_left
          ·simp only [Act.put, List.setIfInBounds_toArray, List.set_cons_zero, List.set_cons_succ, i64_w, i32_w]
           rfl
          refine pure_ (i := 13) (N := some 64) (v := undef) (a' := ?_) #[true, true, true, true, true, true, true, true, true, true, true, true, true, true, false] rfl rfl (any_of HT_.out (by kernel_rfl)) (fun _ _ _ h => h) (Or.inr ⟨by rfl, rfl⟩) ?_ ?_
          rotate_left
          ·simp only [Act.put, List.setIfInBounds_toArray, List.set_cons_zero, List.set_cons_succ, i64_w, i32_w]
           rfl
          refine pure_ (i := 14) (N := some 65) (v := ?_) (a' := ?_) #[true, true, true, true, true, true, true, true, true, true, true, true, true, true, true] rfl rfl (any_of HT_.out (by kernel_rfl)) (fun _ _ _ h => h) (Or.inl ⟨by rfl, ?_⟩) ?_ ?_
          rotate_left
          ·intro w'
           go_simp
           with_reducible rfl
          rotate_left
          ·simp only [Act.put, List.setIfInBounds_toArray, List.set_cons_zero, List.set_cons_succ, i64_w, i32_w]
           rfl
          refine done_ (done_of HT_.out (by kernel_rfl)) ?_
          try go_wp2
          go_meet
          case rel => exact ⟨_, (true), (by first | rfl | (simp; done) | (simp [*]; done)), H', ⟨by have := HJ5.out; first | omega | exact Nat.le_refl _⟩, ⟨by (with_reducible repeat (first | refine blk_drewN ?_ _ | refine blk_drew ?_ | refine blk_alloc ?_ _)); exact BK198.out⟩, ⟨by (with_reducible repeat (first | refine blk_drewN ?_ _ | refine blk_drew ?_ | refine blk_alloc ?_ _)); exact BK202.out⟩, ⟨by (with_reducible repeat (first | refine blk_drewN ?_ _ | refine blk_drew ?_ | refine blk_alloc ?_ _)); exact BK206.out⟩, ⟨by repeat (first | (with_reducible first | exact HB.out | apply below_alloc | apply pw_below_drewN | apply below_drew1 | refine below_set ?_ GE198.out | refine below_set ?_ GE202.out | refine below_set ?_ GE206.out) | exact HB.out)⟩⟩
        case rest =>
         clear HC23
         try clear c1
         try clear c2
         try clear p2
         try clear q2
         try clear hx2
         try clear c3
         try clear c4
         try clear c5
         try clear p6
         try clear c10
         try clear c10b0
         try clear c10b1
         try clear c11
         try clear c12
         try clear c12b0
         try clear c12b1
         try clear c12b2
         try clear c14
         try clear c17
         try clear c18
         try clear c18b0
         try clear c18b1
         try clear c18b2
         try clear c20
         try clear c20b0
         try clear p20
         try clear q20
         try clear hx20
         try clear c21
         try clear c21b0
         try clear c26
         try clear c30
         try clear c31
         try clear c33
         try clear c33b0
         try clear c33b1
         try clear c34
         try clear c34b0
         try clear hcz11_0
         try clear hcz11_1
         try clear hcz11_2
         try clear hcz11_3
         try clear hcz13_0
         try clear hcz13_1
         try clear hcz13_2
         try clear hcz13_3
         try clear hcz15_0
         try clear hcz15_1
         try clear hcz15_2
         try clear hcz15_3
         try clear hcz24_0
         try clear hcz24_1
         try clear hcz24_2
         try clear hcz24_3
         try clear hcz27_0
         try clear hcz27_1
         try clear hcz32_0
         try clear hcz32_1
         try clear hcz9_0
         try clear hcz9_1
         try clear hcz9_2
         try clear hcz9_3
         try clear hfz11_0
         try clear hfz11_1
         try clear hfz11_2
         try clear hfz11_3
         try clear hfz13_0
         try clear hfz13_1
         try clear hfz13_2
         try clear hfz13_3
         try clear hfz15_0
         try clear hfz15_1
         try clear hfz15_2
         try clear hfz15_3
         try clear hfz24_0
         try clear hfz24_1
         try clear hfz24_2
         try clear hfz24_3
         try clear hfz27_0
         try clear hfz27_1
         try clear hfz32_0
         try clear hfz32_1
         try clear hfz9_0
         try clear hfz9_1
         try clear hfz9_2
         try clear hfz9_3
         try clear hx201_0
         try clear hx201_1
         try clear p2
         try clear p201
         try clear q201
         obtain ⟨kq, x65_22, rfl, HA, HJ22, BK198, BK202, BK206, HB⟩ := hcut
         cases kq with
         | zero => exact absurd HA.out (by simp [assessorlaw51_DeadlinesKnots.j1])
         | succ kj22 =>
          have H := HA.out
          clear HA
          simp only [assessorlaw51_DeadlinesKnots.j1] at H
          by_cases c43 : x65_22 = true
          ·subst c43
           have H1 : (none) = some r := by rw [if_pos rfl] at H; exact H
           clear H
           have H := H1
           clear H1
           exact absurd H (by simp)
          ·replace c43 := Bool.eq_false_iff.mpr c43
           subst c43
           have H1 : (if a2 < 0 then (assessorlaw51_DeadlinesKnots.j2 kj22 a2 ji19 t205 true a0_0 a0_1 true l0_3 t203 t204) else (if a2 > 1099511627776 then (assessorlaw51_DeadlinesKnots.j2 kj22 a2 ji19 t205 true a0_0 a0_1 true l0_3 t203 t204) else (assessorlaw51_DeadlinesKnots.j2 kj22 a2 ji19 t205 (decide (a2 ≤ ((rd_T34 l0_3 (ji19)).f0))) a0_0 a0_1 true l0_3 t203 t204))) = some r := by rw [if_neg (show ¬ (false = true) by decide)] at H; exact H
           clear H
           have H := H1
           clear H1
           have HC44 := Aside0.mk H
           clear H
           go_upto_region 11 with (fail)
           go_cut [77] (fun v77 wc => ∃ (kq : Nat) (x77_43 : Bool), v77 = .bool x77_43 ∧ Aside0 (assessorlaw51_DeadlinesKnots.j2 kq a2 ji19 t205 x77_43 a0_0 a0_1 true l0_3 t203 t204 = some r) ∧ Aside0 (kq ≤ kj22) ∧ Aside0 (wc.heap[gb198]? = some (.cells #[.int .i64 a0_0, .int .i64 a0_1, .bool true, (.slice (some ad201) l0_3.length c0_3)] 24 (0, 0))) ∧ Aside0 (wc.heap[gb202]? = some (.cells #[.int .i64 ((rd_T34 l0_3 (ji19)).f0), .int .i64 ((rd_T34 l0_3 (ji19)).f1)] 34 (0, 0))) ∧ Aside0 (wc.heap[gb206]? = some (.cells #[.int .i64 t203, .int .i64 t204] 27 (0, 0))) ∧ Aside0 (Below w.heap.size w wc))
           case first =>
            have H := HC44.out
            clear HC44
            by_cases c45 : a2 < 0
            ·rw [if_pos c45] at H
             have c45b0 : decide (a2 < 0) = true := decide_eq_true c45
             clear c45
             (first | rw [c45b0] | (simp only [i64_w, i32_w]; rw [c45b0]) | skip)
             have H' := Aside0.mk H
             clear H
             go_wp2
             go_meet
             case rel => exact ⟨_, (true), (by first | rfl | (simp; done) | (simp [*]; done)), H', ⟨by have := HJ5.out; have := HJ22.out; first | omega | exact Nat.le_refl _⟩, ⟨by (with_reducible repeat (first | refine blk_drewN ?_ _ | refine blk_drew ?_ | refine blk_alloc ?_ _)); exact BK198.out⟩, ⟨by (with_reducible repeat (first | refine blk_drewN ?_ _ | refine blk_drew ?_ | refine blk_alloc ?_ _)); exact BK202.out⟩, ⟨by (with_reducible repeat (first | refine blk_drewN ?_ _ | refine blk_drew ?_ | refine blk_alloc ?_ _)); exact BK206.out⟩, ⟨by repeat (first | (with_reducible first | exact HB.out | apply below_alloc | apply pw_below_drewN | apply below_drew1 | refine below_set ?_ GE198.out | refine below_set ?_ GE202.out | refine below_set ?_ GE206.out) | exact HB.out)⟩⟩
            ·rw [if_neg c45] at H
             have c45b0 : decide (a2 < 0) = false := decide_eq_false c45
             clear c45
             (first | rw [c45b0] | (simp only [i64_w, i32_w]; rw [c45b0]) | skip)
             by_cases c46 : a2 > 1099511627776
             ·rw [if_pos c46] at H
              have c46b0 : decide (1099511627776 < a2) = true := decide_eq_true c46
              clear c46
              have H' := Aside0.mk H
              clear H
              go_wp2
              go_meet
              case rel => exact ⟨_, (true), (by first | rfl | (simp; done) | (simp [*]; done)), H', ⟨by have := HJ5.out; have := HJ22.out; first | omega | exact Nat.le_refl _⟩, ⟨by (with_reducible repeat (first | refine blk_drewN ?_ _ | refine blk_drew ?_ | refine blk_alloc ?_ _)); exact BK198.out⟩, ⟨by (with_reducible repeat (first | refine blk_drewN ?_ _ | refine blk_drew ?_ | refine blk_alloc ?_ _)); exact BK202.out⟩, ⟨by (with_reducible repeat (first | refine blk_drewN ?_ _ | refine blk_drew ?_ | refine blk_alloc ?_ _)); exact BK206.out⟩, ⟨by repeat (first | (with_reducible first | exact HB.out | apply below_alloc | apply pw_below_drewN | apply below_drew1 | refine below_set ?_ GE198.out | refine below_set ?_ GE202.out | refine below_set ?_ GE206.out) | exact HB.out)⟩⟩
             ·rw [if_neg c46] at H
              have c46b0 : decide (1099511627776 < a2) = false := decide_eq_false c46
              clear c46
              have H' := Aside0.mk H
              clear H
              have hnb47 := NB202_198.out
              have hnc47 := NB198_202.out
              have hnb48 := NB202_206.out
              have hnc48 := NB206_202.out
              have hcz49_0 : wc.cell? ⟨gb202, 0, none⟩ = some (.int .i64 ((rd_T34 l0_3 (ji19)).f0)) := (blk_cell BK202.out 0).trans rfl
              have hcz49_1 : wc.cell? ⟨gb202, 1, none⟩ = some (.int .i64 ((rd_T34 l0_3 (ji19)).f1)) := (blk_cell BK202.out 1).trans rfl
              have hfz49_0 := blk_frozen BK202.out 0
              have hfz49_1 := blk_frozen BK202.out 1
              go_wp2
              go_meet
              case rel => exact ⟨_, (decide (a2 ≤ ((rd_T34 l0_3 (ji19)).f0))), (by first | rfl | (simp; done) | (simp only [← hji19] <;> (first | rfl | simp)) | (simp [*]; done)), H', ⟨by have := HJ5.out; have := HJ22.out; first | omega | exact Nat.le_refl _⟩, ⟨by (with_reducible repeat (first | refine blk_drewN ?_ _ | refine blk_drew ?_ | refine blk_alloc ?_ _)); exact BK198.out⟩, ⟨by (with_reducible repeat (first | refine blk_drewN ?_ _ | refine blk_drew ?_ | refine blk_alloc ?_ _)); exact BK202.out⟩, ⟨by (with_reducible repeat (first | refine blk_drewN ?_ _ | refine blk_drew ?_ | refine blk_alloc ?_ _)); exact BK206.out⟩, ⟨by repeat (first | (with_reducible first | exact HB.out | apply below_alloc | apply pw_below_drewN | apply below_drew1 | refine below_set ?_ GE198.out | refine below_set ?_ GE202.out | refine below_set ?_ GE206.out) | exact HB.out)⟩⟩
           case rest =>
            clear HC44
            try clear c1
            try clear c2
            try clear p2
            try clear q2
            try clear hx2
            try clear c3
            try clear c4
            try clear c5
            try clear p6
            try clear c10
            try clear c10b0
            try clear c10b1
            try clear c11
            try clear c12
            try clear c12b0
            try clear c12b1
            try clear c12b2
            try clear c14
            try clear c17
            try clear c18
            try clear c18b0
            try clear c18b1
            try clear c18b2
            try clear c20
            try clear c20b0
            try clear p20
            try clear q20
            try clear hx20
            try clear c21
            try clear c21b0
            try clear c26
            try clear c30
            try clear c31
            try clear c33
            try clear c33b0
            try clear c33b1
            try clear c34
            try clear c34b0
            try clear c43
            try clear c45
            try clear c45b0
            try clear c46
            try clear c46b0
            try clear c47
            try clear c48
            try clear hcz11_0
            try clear hcz11_1
            try clear hcz11_2
            try clear hcz11_3
            try clear hcz13_0
            try clear hcz13_1
            try clear hcz13_2
            try clear hcz13_3
            try clear hcz15_0
            try clear hcz15_1
            try clear hcz15_2
            try clear hcz15_3
            try clear hcz24_0
            try clear hcz24_1
            try clear hcz24_2
            try clear hcz24_3
            try clear hcz27_0
            try clear hcz27_1
            try clear hcz32_0
            try clear hcz32_1
            try clear hcz49_0
            try clear hcz49_1
            try clear hcz9_0
            try clear hcz9_1
            try clear hcz9_2
            try clear hcz9_3
            try clear hfz11_0
            try clear hfz11_1
            try clear hfz11_2
            try clear hfz11_3
            try clear hfz13_0
            try clear hfz13_1
            try clear hfz13_2
            try clear hfz13_3
            try clear hfz15_0
            try clear hfz15_1
            try clear hfz15_2
            try clear hfz15_3
            try clear hfz24_0
            try clear hfz24_1
            try clear hfz24_2
            try clear hfz24_3
            try clear hfz27_0
            try clear hfz27_1
            try clear hfz32_0
            try clear hfz32_1
            try clear hfz49_0
            try clear hfz49_1
            try clear hfz9_0
            try clear hfz9_1
            try clear hfz9_2
            try clear hfz9_3
            try clear hx201_0
            try clear hx201_1
            try clear p2
            try clear p20
            try clear p201
            try clear p6
            try clear q2
            try clear q20
            try clear q201
            obtain ⟨kq, x77_43, rfl, HA, HJ43, BK198, BK202, BK206, HB⟩ := hcut
            cases kq with
            | zero => exact absurd HA.out (by simp [assessorlaw51_DeadlinesKnots.j2])
            | succ kj43 =>
             have H := HA.out
             clear HA
             simp only [assessorlaw51_DeadlinesKnots.j2] at H
             by_cases c50 : x77_43 = true
             ·subst c50
              have H1 : (some true) = some r := by rw [if_pos rfl] at H; exact H
              clear H
              have H := H1
              clear H1
              obtain rfl := Option.some.inj H
              go_wp2
              go_ret
              exact ⟨by first | rfl | (simp [errW_none, errW_some] <;> rfl) | (simp only [← hji19]; first | rfl | (simp [errW_none, errW_some] <;> rfl)) | (simp [*, errW_none, errW_some] <;> rfl), by repeat (first | (with_reducible first | exact HB.out | apply below_alloc | apply pw_below_drewN | apply below_drew1 | refine below_set ?_ GE198.out | refine below_set ?_ GE202.out | refine below_set ?_ GE206.out) | exact HB.out)⟩
             ·replace c50 := Bool.eq_false_iff.mpr c50
              subst c50
              have H1 : (if (wrap64 (ji19 + 1)) < (l0_3.length : Int) then (if 0 ≤ (wrap64 (ji19 + 1)) then (if a2 > ((rd_T34 l0_3 (wrap64 (ji19 + 1))).f0) then (some true) else ((assessorref46_Make.f kj43 ((rd_T34 l0_3 (wrap64 (ji19 + 1))).f1) 100).bind fun bt212 => (assessorlaw51_DeadlinesKnots.j3 kj43 a2 bt212.2.2 a0_0 a0_1 true l0_3 t203 t204 bt212.1 bt212.2.1))) else (none)) else (assessorlaw51_DeadlinesKnots.j3 kj43 a2 t205 a0_0 a0_1 true l0_3 t203 t204 0 1)) = some r := by rw [if_neg (show ¬ (false = true) by decide)] at H; exact H
              clear H
              have H := H1
              clear H1
              have HC51 := Aside0.mk H
              clear H
              go_upto_if 84 with (first | ((with_reducible refine gate_dst (N := 11) rfl ?_); (try (refine gate_guard (by rfl) ?_; dsimp only)); refine box_event ?hg (N := 11) ?hd (cs := #[.int .i64 0, .int .i64 0]) (t := 27) ?hr ?_; (case hd => rfl); (case hg => rfl); (case hr => first | (go_simp; done) | (go_simp; rfl)); intro gb209 hg w52 hbox hb; have n0_ := Aside0.mk (blk_below (g := gb198) (o := .cells #[.int .i64 a0_0, .int .i64 a0_1, .bool true, .slice (some ad201) l0_3.length c0_3] 24 (0, 0)) (by (with_reducible repeat (first | refine blk_drewN ?_ _ | refine blk_drew ?_ | refine blk_alloc ?_ _)); exact BK198.out) hb); have n1_ := Aside0.mk (blk_below (g := gb202) (o := .cells #[.int .i64 ((rd_T34 l0_3 (ji19)).f0), .int .i64 ((rd_T34 l0_3 (ji19)).f1)] 34 (0, 0)) (by (with_reducible repeat (first | refine blk_drewN ?_ _ | refine blk_drew ?_ | refine blk_alloc ?_ _)); exact BK202.out) hb); have n2_ := Aside0.mk (blk_below (g := gb206) (o := .cells #[.int .i64 t203, .int .i64 t204] 27 (0, 0)) (by (with_reducible repeat (first | refine blk_drewN ?_ _ | refine blk_drew ?_ | refine blk_alloc ?_ _)); exact BK206.out) hb); have n3_ := Aside0.mk (below_step (by repeat (first | (with_reducible first | exact HB.out | apply below_alloc | apply pw_below_drewN | apply below_drew1 | refine below_set ?_ GE198.out | refine below_set ?_ GE202.out | refine below_set ?_ GE206.out) | exact HB.out)) hb); have n4_ := Aside0.mk (hbox); have n5_ := Aside0.mk ((by rw [hg]; exact (below_size (by repeat (first | (with_reducible first | exact HB.out | apply below_alloc | apply pw_below_drewN | apply below_drew1 | refine below_set ?_ GE198.out | refine below_set ?_ GE202.out | refine below_set ?_ GE206.out) | exact HB.out))) : w.heap.size ≤ gb209)); have n6_ := Aside0.mk ((by rw [hg]; exact (below_size (by repeat (first | (with_reducible first | exact HB.out | apply below_alloc | apply pw_below_drewN | apply below_drew1 | refine below_set ?_ GE198.out | refine below_set ?_ GE202.out | refine below_set ?_ GE206.out) | exact HB.out))) : w.heap.size ≤ gb209)); have n7_ := Aside0.mk ((by rw [hg]; exact Nat.ne_of_lt (blk_lt (g := gb198) (o := .cells #[.int .i64 a0_0, .int .i64 a0_1, .bool true, .slice (some ad201) l0_3.length c0_3] 24 (0, 0)) (by (with_reducible repeat (first | refine blk_drewN ?_ _ | refine blk_drew ?_ | refine blk_alloc ?_ _)); exact BK198.out)) : gb198 ≠ gb209)); have n8_ := Aside0.mk ((by rw [hg]; exact Nat.ne_of_gt (blk_lt (g := gb198) (o := .cells #[.int .i64 a0_0, .int .i64 a0_1, .bool true, .slice (some ad201) l0_3.length c0_3] 24 (0, 0)) (by (with_reducible repeat (first | refine blk_drewN ?_ _ | refine blk_drew ?_ | refine blk_alloc ?_ _)); exact BK198.out)) : gb209 ≠ gb198)); have n9_ := Aside0.mk ((by rw [hg]; exact Nat.ne_of_lt (blk_lt (g := gb202) (o := .cells #[.int .i64 ((rd_T34 l0_3 (ji19)).f0), .int .i64 ((rd_T34 l0_3 (ji19)).f1)] 34 (0, 0)) (by (with_reducible repeat (first | refine blk_drewN ?_ _ | refine blk_drew ?_ | refine blk_alloc ?_ _)); exact BK202.out)) : gb202 ≠ gb209)); have n10_ := Aside0.mk ((by rw [hg]; exact Nat.ne_of_gt (blk_lt (g := gb202) (o := .cells #[.int .i64 ((rd_T34 l0_3 (ji19)).f0), .int .i64 ((rd_T34 l0_3 (ji19)).f1)] 34 (0, 0)) (by (with_reducible repeat (first | refine blk_drewN ?_ _ | refine blk_drew ?_ | refine blk_alloc ?_ _)); exact BK202.out)) : gb209 ≠ gb202)); have n11_ := Aside0.mk ((by rw [hg]; exact Nat.ne_of_lt (blk_lt (g := gb206) (o := .cells #[.int .i64 t203, .int .i64 t204] 27 (0, 0)) (by (with_reducible repeat (first | refine blk_drewN ?_ _ | refine blk_drew ?_ | refine blk_alloc ?_ _)); exact BK206.out)) : gb206 ≠ gb209)); have n12_ := Aside0.mk ((by rw [hg]; exact Nat.ne_of_gt (blk_lt (g := gb206) (o := .cells #[.int .i64 t203, .int .i64 t204] 27 (0, 0)) (by (with_reducible repeat (first | refine blk_drewN ?_ _ | refine blk_drew ?_ | refine blk_alloc ?_ _)); exact BK206.out)) : gb209 ≠ gb206)); clear BK198; clear BK202; clear BK206; clear HB; have BK198 := n0_; have BK202 := n1_; have BK206 := n2_; have HB := n3_; have BK209 := n4_; have GW209 := n5_; have GE209 := n6_; have NB198_209 := n7_; have NB209_198 := n8_; have NB202_209 := n9_; have NB209_202 := n10_; have NB206_209 := n11_; have NB209_206 := n12_; clear n0_ n1_ n2_ n3_ n4_ n5_ n6_ n7_ n8_ n9_ n10_ n11_ n12_; clear hb hbox hg; have hnb53 := NB209_198.out; have hnc53 := NB198_209.out; have hnb54 := NB209_202.out; have hnc54 := NB202_209.out; have hnb55 := NB209_206.out; have hnc55 := NB206_209.out; have hcz56_0 : w52.cell? ⟨gb209, 0, none⟩ = some (.int .i64 0) := (blk_cell BK209.out 0).trans rfl; have hcz56_1 : w52.cell? ⟨gb209, 1, none⟩ = some (.int .i64 0) := (blk_cell BK209.out 1).trans rfl; have hfz56_0 := blk_frozen BK209.out 0; have hfz56_1 := blk_frozen BK209.out 1; have hnb57 := NB198_202.out; have hnc57 := NB202_198.out; have hnb58 := NB198_206.out; have hnc58 := NB206_198.out; have hcz59_0 : w52.cell? ⟨gb198, 0, none⟩ = some (.int .i64 a0_0) := (blk_cell BK198.out 0).trans rfl; have hcz59_1 : w52.cell? ⟨gb198, 1, none⟩ = some (.int .i64 a0_1) := (blk_cell BK198.out 1).trans rfl; have hcz59_2 : w52.cell? ⟨gb198, 2, none⟩ = some (.bool true) := (blk_cell BK198.out 2).trans rfl; have hcz59_3 : w52.cell? ⟨gb198, 3, none⟩ = some (.slice (some ad201) l0_3.length c0_3) := (blk_cell BK198.out 3).trans rfl; have hfz59_0 := blk_frozen BK198.out 0; have hfz59_1 := blk_frozen BK198.out 1; have hfz59_2 := blk_frozen BK198.out 2; have hfz59_3 := blk_frozen BK198.out 3))
              (try simp only [Act.put, List.setIfInBounds_toArray, List.set_cons_zero, List.set_cons_succ])
              go_cut [10] (fun v10 wc => ∃ (kq : Nat) (x10_50 : Int) (x210000_50 : Int) (x210001_50 : Int), v10 = .int .i64 x10_50 ∧ Aside0 (assessorlaw51_DeadlinesKnots.j3 kq a2 x10_50 a0_0 a0_1 true l0_3 t203 t204 x210000_50 x210001_50 = some r) ∧ Aside0 (kq ≤ kj43) ∧ Aside0 (wc.heap[gb198]? = some (.cells #[.int .i64 a0_0, .int .i64 a0_1, .bool true, (.slice (some ad201) l0_3.length c0_3)] 24 (0, 0))) ∧ Aside0 (wc.heap[gb202]? = some (.cells #[.int .i64 ((rd_T34 l0_3 (ji19)).f0), .int .i64 ((rd_T34 l0_3 (ji19)).f1)] 34 (0, 0))) ∧ Aside0 (wc.heap[gb206]? = some (.cells #[.int .i64 t203, .int .i64 t204] 27 (0, 0))) ∧ Aside0 (wc.heap[gb209]? = some (.cells #[.int .i64 x210000_50, .int .i64 x210001_50] 27 (0, 0))) ∧ Aside0 (Below w.heap.size w wc))
              case first =>
               have H := HC51.out
               clear HC51
               by_cases c60 : (wrap64 (ji19 + 1)) < (l0_3.length : Int)
               ·rw [if_pos c60] at H
                have c60b0 : decide ((wrap64 (ji19 + 1)) < (l0_3.length : Int)) = true := decide_eq_true c60
                clear c60
                (first | rw [c60b0] | (simp only [i64_w, i32_w]; rw [c60b0]) | skip)
                obtain ⟨ji61, hji61⟩ : ∃ j_ : Int, (wrap64 (ji19 + 1)) = j_ := ⟨_, rfl⟩
                replace H : (if 0 ≤ (ji61) then (if a2 > ((rd_T34 l0_3 (ji61)).f0) then (some true) else ((assessorref46_Make.f kj43 ((rd_T34 l0_3 (ji61)).f1) 100).bind fun bt212 => (assessorlaw51_DeadlinesKnots.j3 kj43 a2 bt212.2.2 a0_0 a0_1 true l0_3 t203 t204 bt212.1 bt212.2.1))) else (none)) = some r := by first | (rw [hji61] at H; exact H) | (simp only [hji61] at H ⊢; exact H)
                (try rw [hji61] at c60b0)
                have hji61w : (IntKind.i64.wrap (ji19 + 1)) = ji61 := (i64_w _).trans hji61
                by_cases c62 : 0 ≤ (ji61)
                ·rw [if_pos c62] at H
                 have c62b0 : decide (0 ≤ (ji61)) = true := decide_eq_true c62
                 clear c62
                 by_cases c63 : a2 > ((rd_T34 l0_3 (ji61)).f0)
                 ·rw [if_pos c63] at H
                  have c63b0 : decide (((rd_T34 l0_3 (ji61)).f0) < a2) = true := decide_eq_true c63
                  clear c63
                  obtain rfl := Option.some.inj H
                  have hnb64 := NB198_202.out
                  have hnc64 := NB202_198.out
                  have hnb65 := NB198_206.out
                  have hnc65 := NB206_198.out
                  have hnb66 := NB198_209.out
                  have hnc66 := NB209_198.out
                  have hcz67_0 : w52.cell? ⟨gb198, 0, none⟩ = some (.int .i64 a0_0) := (blk_cell BK198.out 0).trans rfl
                  have hcz67_1 : w52.cell? ⟨gb198, 1, none⟩ = some (.int .i64 a0_1) := (blk_cell BK198.out 1).trans rfl
                  have hcz67_2 : w52.cell? ⟨gb198, 2, none⟩ = some (.bool true) := (blk_cell BK198.out 2).trans rfl
                  have hcz67_3 : w52.cell? ⟨gb198, 3, none⟩ = some (.slice (some ad201) l0_3.length c0_3) := (blk_cell BK198.out 3).trans rfl
                  have hfz67_0 := blk_frozen BK198.out 0
                  have hfz67_1 := blk_frozen BK198.out 1
                  have hfz67_2 := blk_frozen BK198.out 2
                  have hfz67_3 := blk_frozen BK198.out 3
                  have p210 : 0 ≤ ((ji61) : Int) := of_decide_eq_true (by first | (with_reducible assumption) | assumption)
                  have q210 : (ji61) < (l0_3.length : Int) := of_decide_eq_true (by first | (with_reducible assumption) | assumption)
                  obtain ⟨ad210, e210, hx210_0, hx210_1⟩ := at_T34 HR0_3.out (ji61) p210 q210
                  obtain rfl : ad201 = ad210 := (by injection e210)
                  have hn210_0 : ad201.block ≠ gb209 := Nat.ne_of_lt (Nat.lt_of_lt_of_le (by have := World.block_lt_of_cell? _ _ hx210_0; first | rwa [add_block] at this | exact this) GW209.out)
                  have hn210_1 : ad201.block ≠ gb209 := Nat.ne_of_lt (Nat.lt_of_lt_of_le (by have := World.block_lt_of_cell? _ _ hx210_0; first | rwa [add_block] at this | exact this) GW209.out)
                  replace hx210_0 := (HB.out.cell (World.block_lt_of_cell? w _ hx210_0)).trans hx210_0
                  replace hx210_1 := (HB.out.cell (World.block_lt_of_cell? w _ hx210_1)).trans hx210_1
                  replace hx210_0 := (cell_far (p := ⟨gb209, 0, none⟩) (by first | (rw [add_block]; exact hn210_0) | (show (Addr.add _ _).block ≠ _; rw [add_block]; exact hn210_0) | exact hn210_0) (.int .i64 0)).trans hx210_0
                  replace hx210_1 := (cell_far (p := ⟨gb209, 0, none⟩) (by first | (rw [add_block]; exact hn210_0) | (show (Addr.add _ _).block ≠ _; rw [add_block]; exact hn210_0) | exact hn210_0) (.int .i64 0)).trans hx210_1
                  replace hx210_0 := (cell_far (p := ⟨gb209, 1, none⟩) (by first | (rw [add_block]; exact hn210_1) | (show (Addr.add _ _).block ≠ _; rw [add_block]; exact hn210_1) | exact hn210_1) (.int .i64 1)).trans hx210_0
                  replace hx210_1 := (cell_far (p := ⟨gb209, 1, none⟩) (by first | (rw [add_block]; exact hn210_1) | (show (Addr.add _ _).block ≠ _; rw [add_block]; exact hn210_1) | exact hn210_1) (.int .i64 1)).trans hx210_1
                  clear hn210_0
                  clear hn210_1
                  replace p210 := eq_true p210
                  replace q210 := eq_true q210
                  go_wp2
                  go_ret
                  exact ⟨by first | rfl | (simp [errW_none, errW_some] <;> rfl) | (simp only [← hji19, ← hji61]; first | rfl | (simp [errW_none, errW_some] <;> rfl)) | (simp [*, errW_none, errW_some] <;> rfl), by repeat (first | (with_reducible first | exact HB.out | apply below_alloc | apply pw_below_drewN | apply below_drew1 | refine below_set ?_ GE198.out | refine below_set ?_ GE202.out | refine below_set ?_ GE206.out | refine below_set ?_ GE209.out) | exact HB.out)⟩
                 ·rw [if_neg c63] at H
                  have c63b0 : decide (((rd_T34 l0_3 (ji61)).f0) < a2) = false := decide_eq_false c63
                  clear c63
                  replace H := Option.bind_eq_some_iff.mp H
                  obtain ⟨⟨t212, t213, t214⟩, A680, H⟩ := H
                  replace H : (assessorlaw51_DeadlinesKnots.j3 kj43 a2 t214 a0_0 a0_1 true l0_3 t203 t204 t212 t213) = some r := H
                  have A68 := Aside0.mk A680
                  clear A680
                  have H' := Aside0.mk H
                  clear H
                  have hnb69 := NB198_202.out
                  have hnc69 := NB202_198.out
                  have hnb70 := NB198_206.out
                  have hnc70 := NB206_198.out
                  have hnb71 := NB198_209.out
                  have hnc71 := NB209_198.out
                  have hcz72_0 : w52.cell? ⟨gb198, 0, none⟩ = some (.int .i64 a0_0) := (blk_cell BK198.out 0).trans rfl
                  have hcz72_1 : w52.cell? ⟨gb198, 1, none⟩ = some (.int .i64 a0_1) := (blk_cell BK198.out 1).trans rfl
                  have hcz72_2 : w52.cell? ⟨gb198, 2, none⟩ = some (.bool true) := (blk_cell BK198.out 2).trans rfl
                  have hcz72_3 : w52.cell? ⟨gb198, 3, none⟩ = some (.slice (some ad201) l0_3.length c0_3) := (blk_cell BK198.out 3).trans rfl
                  have hfz72_0 := blk_frozen BK198.out 0
                  have hfz72_1 := blk_frozen BK198.out 1
                  have hfz72_2 := blk_frozen BK198.out 2
                  have hfz72_3 := blk_frozen BK198.out 3
                  have p210 : 0 ≤ ((ji61) : Int) := of_decide_eq_true (by first | (with_reducible assumption) | assumption)
                  have q210 : (ji61) < (l0_3.length : Int) := of_decide_eq_true (by first | (with_reducible assumption) | assumption)
                  obtain ⟨ad210, e210, hx210_0, hx210_1⟩ := at_T34 HR0_3.out (ji61) p210 q210
                  obtain rfl : ad201 = ad210 := (by injection e210)
                  have hn210_0 : ad201.block ≠ gb209 := Nat.ne_of_lt (Nat.lt_of_lt_of_le (by have := World.block_lt_of_cell? _ _ hx210_0; first | rwa [add_block] at this | exact this) GW209.out)
                  have hn210_1 : ad201.block ≠ gb209 := Nat.ne_of_lt (Nat.lt_of_lt_of_le (by have := World.block_lt_of_cell? _ _ hx210_0; first | rwa [add_block] at this | exact this) GW209.out)
                  replace hx210_0 := (HB.out.cell (World.block_lt_of_cell? w _ hx210_0)).trans hx210_0
                  replace hx210_1 := (HB.out.cell (World.block_lt_of_cell? w _ hx210_1)).trans hx210_1
                  replace hx210_0 := (cell_far (p := ⟨gb209, 0, none⟩) (by first | (rw [add_block]; exact hn210_0) | (show (Addr.add _ _).block ≠ _; rw [add_block]; exact hn210_0) | exact hn210_0) (.int .i64 0)).trans hx210_0
                  replace hx210_1 := (cell_far (p := ⟨gb209, 0, none⟩) (by first | (rw [add_block]; exact hn210_0) | (show (Addr.add _ _).block ≠ _; rw [add_block]; exact hn210_0) | exact hn210_0) (.int .i64 0)).trans hx210_1
                  replace hx210_0 := (cell_far (p := ⟨gb209, 1, none⟩) (by first | (rw [add_block]; exact hn210_1) | (show (Addr.add _ _).block ≠ _; rw [add_block]; exact hn210_1) | exact hn210_1) (.int .i64 1)).trans hx210_0
                  replace hx210_1 := (cell_far (p := ⟨gb209, 1, none⟩) (by first | (rw [add_block]; exact hn210_1) | (show (Addr.add _ _).block ≠ _; rw [add_block]; exact hn210_1) | exact hn210_1) (.int .i64 1)).trans hx210_1
                  clear hn210_0
                  clear hn210_1
                  replace p210 := eq_true p210
                  replace q210 := eq_true q210
                  have p211 : 0 ≤ ((ji61) : Int) := of_decide_eq_true (by first | (with_reducible assumption) | assumption)
                  have q211 : (ji61) < (l0_3.length : Int) := of_decide_eq_true (by first | (with_reducible assumption) | assumption)
                  obtain ⟨ad211, e211, hx211_0, hx211_1⟩ := at_T34 HR0_3.out (ji61) p211 q211
                  obtain rfl : ad201 = ad211 := (by injection e211)
                  have hn211_0 : ad201.block ≠ gb209 := Nat.ne_of_lt (Nat.lt_of_lt_of_le (by have := World.block_lt_of_cell? _ _ hx211_0; first | rwa [add_block] at this | exact this) GW209.out)
                  have hn211_1 : ad201.block ≠ gb209 := Nat.ne_of_lt (Nat.lt_of_lt_of_le (by have := World.block_lt_of_cell? _ _ hx211_0; first | rwa [add_block] at this | exact this) GW209.out)
                  replace hx211_0 := (HB.out.cell (World.block_lt_of_cell? w _ hx211_0)).trans hx211_0
                  replace hx211_1 := (HB.out.cell (World.block_lt_of_cell? w _ hx211_1)).trans hx211_1
                  replace hx211_0 := (cell_far (p := ⟨gb209, 0, none⟩) (by first | (rw [add_block]; exact hn211_0) | (show (Addr.add _ _).block ≠ _; rw [add_block]; exact hn211_0) | exact hn211_0) (.int .i64 0)).trans hx211_0
                  replace hx211_1 := (cell_far (p := ⟨gb209, 0, none⟩) (by first | (rw [add_block]; exact hn211_0) | (show (Addr.add _ _).block ≠ _; rw [add_block]; exact hn211_0) | exact hn211_0) (.int .i64 0)).trans hx211_1
                  replace hx211_0 := (cell_far (p := ⟨gb209, 1, none⟩) (by first | (rw [add_block]; exact hn211_1) | (show (Addr.add _ _).block ≠ _; rw [add_block]; exact hn211_1) | exact hn211_1) (.int .i64 1)).trans hx211_0
                  replace hx211_1 := (cell_far (p := ⟨gb209, 1, none⟩) (by first | (rw [add_block]; exact hn211_1) | (show (Addr.add _ _).block ≠ _; rw [add_block]; exact hn211_1) | exact hn211_1) (.int .i64 1)).trans hx211_1
                  clear hn211_0
                  clear hn211_1
                  replace p211 := eq_true p211
                  replace q211 := eq_true q211
                  go_wp2_with (first | ((with_reducible refine gate_callee (f := 14) rfl ?_); refine goesL_ (some 102) rfl rfl Try.func14 (by kernel_rfl) rfl #[.int .i64 ((rd_T34 l0_3 (ji61)).f1), .int .i64 100] rfl (by (try simp only [List.map_toArray, List.map_cons, List.map_nil]); first | done | (simp only [hji61]; rfl) | rfl | (simp only [List.length_drop, List.length_take]; rfl)) ?_; (with_reducible refine (assessorref46_Make.calls kj43 ((rd_T34 l0_3 (ji61)).f1) 100 t212 t213 t214 _ A68.out).mono ?_); rintro e w73 ⟨rfl, hb⟩; refine ⟨_, rfl, ?_⟩; have n0_ := Aside0.mk (blk_below (g := gb198) (o := .cells #[.int .i64 a0_0, .int .i64 a0_1, .bool true, .slice (some ad201) l0_3.length c0_3] 24 (0, 0)) (by (with_reducible repeat (first | refine blk_drewN ?_ _ | refine blk_drew ?_ | refine blk_alloc ?_ _)); refine blk_far ?_ NB198_209.out _; (with_reducible repeat (first | refine blk_drewN ?_ _ | refine blk_drew ?_ | refine blk_alloc ?_ _)); refine blk_far ?_ NB198_209.out _; (with_reducible repeat (first | refine blk_drewN ?_ _ | refine blk_drew ?_ | refine blk_alloc ?_ _)); exact BK198.out) hb); have n1_ := Aside0.mk (blk_below (g := gb202) (o := .cells #[.int .i64 ((rd_T34 l0_3 (ji19)).f0), .int .i64 ((rd_T34 l0_3 (ji19)).f1)] 34 (0, 0)) (by (with_reducible repeat (first | refine blk_drewN ?_ _ | refine blk_drew ?_ | refine blk_alloc ?_ _)); refine blk_far ?_ NB202_209.out _; (with_reducible repeat (first | refine blk_drewN ?_ _ | refine blk_drew ?_ | refine blk_alloc ?_ _)); refine blk_far ?_ NB202_209.out _; (with_reducible repeat (first | refine blk_drewN ?_ _ | refine blk_drew ?_ | refine blk_alloc ?_ _)); exact BK202.out) hb); have n2_ := Aside0.mk (blk_below (g := gb206) (o := .cells #[.int .i64 t203, .int .i64 t204] 27 (0, 0)) (by (with_reducible repeat (first | refine blk_drewN ?_ _ | refine blk_drew ?_ | refine blk_alloc ?_ _)); refine blk_far ?_ NB206_209.out _; (with_reducible repeat (first | refine blk_drewN ?_ _ | refine blk_drew ?_ | refine blk_alloc ?_ _)); refine blk_far ?_ NB206_209.out _; (with_reducible repeat (first | refine blk_drewN ?_ _ | refine blk_drew ?_ | refine blk_alloc ?_ _)); exact BK206.out) hb); have n3_ := Aside0.mk (blk_below (g := gb209) (o := .cells #[.int .i64 0, .int .i64 1] 27 (0, 0)) (by (with_reducible repeat (first | refine blk_drewN ?_ _ | refine blk_drew ?_ | refine blk_alloc ?_ _)); refine blk_put (cs := #[.int .i64 0, .int .i64 0]) ?_ 1 _ rfl; (with_reducible repeat (first | refine blk_drewN ?_ _ | refine blk_drew ?_ | refine blk_alloc ?_ _)); refine blk_put (cs := #[.int .i64 0, .int .i64 0]) ?_ 0 _ rfl; (with_reducible repeat (first | refine blk_drewN ?_ _ | refine blk_drew ?_ | refine blk_alloc ?_ _)); exact BK209.out) hb); have n4_ := Aside0.mk (below_step (by repeat (first | (with_reducible first | exact HB.out | apply below_alloc | apply pw_below_drewN | apply below_drew1 | refine below_set ?_ GE198.out | refine below_set ?_ GE202.out | refine below_set ?_ GE206.out | refine below_set ?_ GE209.out) | exact HB.out)) hb); clear BK198; clear BK202; clear BK206; clear BK209; clear HB; have BK198 := n0_; have BK202 := n1_; have BK206 := n2_; have BK209 := n3_; have HB := n4_; clear n0_ n1_ n2_ n3_ n4_; (try clear hb); (try clear hb2); (try clear hk); (try clear hi); have hnb74 := NB209_202.out; have hnc74 := NB202_209.out; have hnb75 := NB209_206.out; have hnc75 := NB206_209.out; have hcz76_0 : w73.cell? ⟨gb209, 0, none⟩ = some (.int .i64 0) := (blk_cell BK209.out 0).trans rfl; have hcz76_1 : w73.cell? ⟨gb209, 1, none⟩ = some (.int .i64 1) := (blk_cell BK209.out 1).trans rfl; have hfz76_0 := blk_frozen BK209.out 0; have hfz76_1 := blk_frozen BK209.out 1))
                  go_meet
                  case rel => exact ⟨_, (t214), (t212), (t213), (by first | rfl | (simp; done) | (simp [*]; done)), H', ⟨by have := HJ5.out; have := HJ22.out; have := HJ43.out; first | omega | exact Nat.le_refl _⟩, ⟨by (with_reducible repeat (first | refine blk_drewN ?_ _ | refine blk_drew ?_ | refine blk_alloc ?_ _)); refine blk_far ?_ NB198_209.out _; (with_reducible repeat (first | refine blk_drewN ?_ _ | refine blk_drew ?_ | refine blk_alloc ?_ _)); refine blk_far ?_ NB198_209.out _; (with_reducible repeat (first | refine blk_drewN ?_ _ | refine blk_drew ?_ | refine blk_alloc ?_ _)); exact BK198.out⟩, ⟨by (with_reducible repeat (first | refine blk_drewN ?_ _ | refine blk_drew ?_ | refine blk_alloc ?_ _)); refine blk_far ?_ NB202_209.out _; (with_reducible repeat (first | refine blk_drewN ?_ _ | refine blk_drew ?_ | refine blk_alloc ?_ _)); refine blk_far ?_ NB202_209.out _; (with_reducible repeat (first | refine blk_drewN ?_ _ | refine blk_drew ?_ | refine blk_alloc ?_ _)); exact BK202.out⟩, ⟨by (with_reducible repeat (first | refine blk_drewN ?_ _ | refine blk_drew ?_ | refine blk_alloc ?_ _)); refine blk_far ?_ NB206_209.out _; (with_reducible repeat (first | refine blk_drewN ?_ _ | refine blk_drew ?_ | refine blk_alloc ?_ _)); refine blk_far ?_ NB206_209.out _; (with_reducible repeat (first | refine blk_drewN ?_ _ | refine blk_drew ?_ | refine blk_alloc ?_ _)); exact BK206.out⟩, ⟨by (with_reducible repeat (first | refine blk_drewN ?_ _ | refine blk_drew ?_ | refine blk_alloc ?_ _)); refine blk_put (cs := #[.int .i64 t212, .int .i64 1]) ?_ 1 _ rfl; (with_reducible repeat (first | refine blk_drewN ?_ _ | refine blk_drew ?_ | refine blk_alloc ?_ _)); refine blk_put (cs := #[.int .i64 0, .int .i64 1]) ?_ 0 _ rfl; (with_reducible repeat (first | refine blk_drewN ?_ _ | refine blk_drew ?_ | refine blk_alloc ?_ _)); exact BK209.out⟩, ⟨by repeat (first | (with_reducible first | exact HB.out | apply below_alloc | apply pw_below_drewN | apply below_drew1 | refine below_set ?_ GE198.out | refine below_set ?_ GE202.out | refine below_set ?_ GE206.out | refine below_set ?_ GE209.out) | exact HB.out)⟩⟩
                ·rw [if_neg c62] at H
                 exact absurd H (by simp)
               ·rw [if_neg c60] at H
                have c60b0 : decide ((wrap64 (ji19 + 1)) < (l0_3.length : Int)) = false := decide_eq_false c60
                clear c60
                (first | rw [c60b0] | (simp only [i64_w, i32_w]; rw [c60b0]) | skip)
                have H' := Aside0.mk H
                clear H
                go_wp2
                go_meet
                case rel => exact ⟨_, (t205), (0), (1), (by first | rfl | (simp; done) | (simp [*]; done)), H', ⟨by have := HJ5.out; have := HJ22.out; have := HJ43.out; first | omega | exact Nat.le_refl _⟩, ⟨by (with_reducible repeat (first | refine blk_drewN ?_ _ | refine blk_drew ?_ | refine blk_alloc ?_ _)); refine blk_far ?_ NB198_209.out _; (with_reducible repeat (first | refine blk_drewN ?_ _ | refine blk_drew ?_ | refine blk_alloc ?_ _)); refine blk_far ?_ NB198_209.out _; (with_reducible repeat (first | refine blk_drewN ?_ _ | refine blk_drew ?_ | refine blk_alloc ?_ _)); exact BK198.out⟩, ⟨by (with_reducible repeat (first | refine blk_drewN ?_ _ | refine blk_drew ?_ | refine blk_alloc ?_ _)); refine blk_far ?_ NB202_209.out _; (with_reducible repeat (first | refine blk_drewN ?_ _ | refine blk_drew ?_ | refine blk_alloc ?_ _)); refine blk_far ?_ NB202_209.out _; (with_reducible repeat (first | refine blk_drewN ?_ _ | refine blk_drew ?_ | refine blk_alloc ?_ _)); exact BK202.out⟩, ⟨by (with_reducible repeat (first | refine blk_drewN ?_ _ | refine blk_drew ?_ | refine blk_alloc ?_ _)); refine blk_far ?_ NB206_209.out _; (with_reducible repeat (first | refine blk_drewN ?_ _ | refine blk_drew ?_ | refine blk_alloc ?_ _)); refine blk_far ?_ NB206_209.out _; (with_reducible repeat (first | refine blk_drewN ?_ _ | refine blk_drew ?_ | refine blk_alloc ?_ _)); exact BK206.out⟩, ⟨by (with_reducible repeat (first | refine blk_drewN ?_ _ | refine blk_drew ?_ | refine blk_alloc ?_ _)); refine blk_put (cs := #[.int .i64 0, .int .i64 0]) ?_ 1 _ rfl; (with_reducible repeat (first | refine blk_drewN ?_ _ | refine blk_drew ?_ | refine blk_alloc ?_ _)); refine blk_put (cs := #[.int .i64 0, .int .i64 0]) ?_ 0 _ rfl; (with_reducible repeat (first | refine blk_drewN ?_ _ | refine blk_drew ?_ | refine blk_alloc ?_ _)); exact BK209.out⟩, ⟨by repeat (first | (with_reducible first | exact HB.out | apply below_alloc | apply pw_below_drewN | apply below_drew1 | refine below_set ?_ GE198.out | refine below_set ?_ GE202.out | refine below_set ?_ GE206.out | refine below_set ?_ GE209.out) | exact HB.out)⟩⟩
              case rest =>
               clear HC51
               try clear c1
               try clear c2
               try clear p2
               try clear q2
               try clear hx2
               try clear c3
               try clear c4
               try clear c5
               try clear c6
               try clear p6
               try clear c7
               try clear c10
               try clear c10b0
               try clear c10b1
               try clear c11
               try clear c12
               try clear c12b0
               try clear c12b1
               try clear c12b2
               try clear c14
               try clear c17
               try clear c18
               try clear c18b0
               try clear c18b1
               try clear c18b2
               try clear c20
               try clear c20b0
               try clear p20
               try clear q20
               try clear hx20
               try clear c21
               try clear c21b0
               try clear p21
               try clear q21
               try clear hx21
               try clear c26
               try clear c30
               try clear c31
               try clear c33
               try clear c33b0
               try clear c33b1
               try clear c34
               try clear c34b0
               try clear c43
               try clear c45
               try clear c45b0
               try clear c46
               try clear c46b0
               try clear c47
               try clear c48
               try clear c50
               try clear c53
               try clear c54
               try clear c55
               try clear c57
               try clear c58
               try clear c60
               try clear c60b0
               try clear c62
               try clear c62b0
               try clear c63
               try clear c63b0
               try clear c64
               try clear p64
               try clear c65
               try clear c66
               try clear c69
               try clear c70
               try clear c71
               try clear c74
               try clear c75
               try clear hcz11_0
               try clear hcz11_1
               try clear hcz11_2
               try clear hcz11_3
               try clear hcz13_0
               try clear hcz13_1
               try clear hcz13_2
               try clear hcz13_3
               try clear hcz15_0
               try clear hcz15_1
               try clear hcz15_2
               try clear hcz15_3
               try clear hcz24_0
               try clear hcz24_1
               try clear hcz24_2
               try clear hcz24_3
               try clear hcz27_0
               try clear hcz27_1
               try clear hcz32_0
               try clear hcz32_1
               try clear hcz49_0
               try clear hcz49_1
               try clear hcz56_0
               try clear hcz56_1
               try clear hcz59_0
               try clear hcz59_1
               try clear hcz59_2
               try clear hcz59_3
               try clear hcz67_0
               try clear hcz67_1
               try clear hcz67_2
               try clear hcz67_3
               try clear hcz72_0
               try clear hcz72_1
               try clear hcz72_2
               try clear hcz72_3
               try clear hcz76_0
               try clear hcz76_1
               try clear hcz9_0
               try clear hcz9_1
               try clear hcz9_2
               try clear hcz9_3
               try clear hfz11_0
               try clear hfz11_1
               try clear hfz11_2
               try clear hfz11_3
               try clear hfz13_0
               try clear hfz13_1
               try clear hfz13_2
               try clear hfz13_3
               try clear hfz15_0
               try clear hfz15_1
               try clear hfz15_2
               try clear hfz15_3
               try clear hfz24_0
               try clear hfz24_1
               try clear hfz24_2
               try clear hfz24_3
               try clear hfz27_0
               try clear hfz27_1
               try clear hfz32_0
               try clear hfz32_1
               try clear hfz49_0
               try clear hfz49_1
               try clear hfz56_0
               try clear hfz56_1
               try clear hfz59_0
               try clear hfz59_1
               try clear hfz59_2
               try clear hfz59_3
               try clear hfz67_0
               try clear hfz67_1
               try clear hfz67_2
               try clear hfz67_3
               try clear hfz72_0
               try clear hfz72_1
               try clear hfz72_2
               try clear hfz72_3
               try clear hfz76_0
               try clear hfz76_1
               try clear hfz9_0
               try clear hfz9_1
               try clear hfz9_2
               try clear hfz9_3
               try clear hx201_0
               try clear hx201_1
               try clear hx210_0
               try clear hx210_1
               try clear hx211_0
               try clear hx211_1
               try clear p2
               try clear p20
               try clear p201
               try clear p210
               try clear p211
               try clear p6
               try clear q2
               try clear q20
               try clear q201
               try clear q210
               try clear q211
               obtain ⟨kq, x10_50, x210000_50, x210001_50, rfl, HA, HJ50, BK198, BK202, BK206, BK209, HB⟩ := hcut
               cases kq with
               | zero => exact absurd HA.out (by simp [assessorlaw51_DeadlinesKnots.j3])
               | succ kj50 =>
                have H := HA.out
                clear HA
                simp only [assessorlaw51_DeadlinesKnots.j3] at H
                replace H := Option.bind_eq_some_iff.mp H
                obtain ⟨⟨t215, t216⟩, A770, H⟩ := H
                replace H : ((assessorref46_Compare.f kj50 t215 t216 t203 t204).bind fun bt217 => ((deadlines_Factor.f kj50 a0_0 a0_1 true l0_3 a2).bind fun bt219 => ((assessorref46_Compare.f kj50 bt219.1 bt219.2 x210000_50 x210001_50).bind fun bt221 => (if x10_50 = 0 then (if bt217.2 = true then (if bt221.2 = true then (if bt217.1 ≤ 0 then (some (decide (bt221.1 ≥ 0))) else (none)) else (none)) else (none)) else (none))))) = some r := H
                have A77 := Aside0.mk A770
                clear A770
                replace H := Option.bind_eq_some_iff.mp H
                obtain ⟨⟨t217, t218⟩, A780, H⟩ := H
                replace H : ((deadlines_Factor.f kj50 a0_0 a0_1 true l0_3 a2).bind fun bt219 => ((assessorref46_Compare.f kj50 bt219.1 bt219.2 x210000_50 x210001_50).bind fun bt221 => (if x10_50 = 0 then (if t218 = true then (if bt221.2 = true then (if t217 ≤ 0 then (some (decide (bt221.1 ≥ 0))) else (none)) else (none)) else (none)) else (none)))) = some r := H
                have A78 := Aside0.mk A780
                clear A780
                replace H := Option.bind_eq_some_iff.mp H
                obtain ⟨⟨t219, t220⟩, A790, H⟩ := H
                replace H : ((assessorref46_Compare.f kj50 t219 t220 x210000_50 x210001_50).bind fun bt221 => (if x10_50 = 0 then (if t218 = true then (if bt221.2 = true then (if t217 ≤ 0 then (some (decide (bt221.1 ≥ 0))) else (none)) else (none)) else (none)) else (none))) = some r := H
                have A79 := Aside0.mk A790
                clear A790
                replace H := Option.bind_eq_some_iff.mp H
                obtain ⟨⟨t221, t222⟩, A800, H⟩ := H
                replace H : (if x10_50 = 0 then (if t218 = true then (if t222 = true then (if t217 ≤ 0 then (some (decide (t221 ≥ 0))) else (none)) else (none)) else (none)) else (none)) = some r := H
                have A80 := Aside0.mk A800
                clear A800
                by_cases c81 : x10_50 = 0
                ·rw [if_pos c81] at H
                 have c81b0 : (x10_50 == 0) = true := beq_iff_eq.mpr c81
                 have c81b1 : (x10_50 != 0) = false := bne_eq_false_iff_eq.mpr c81
                 clear c81
                 by_cases c82 : t218 = true
                 ·subst c82
                  have H1 : (if t222 = true then (if t217 ≤ 0 then (some (decide (t221 ≥ 0))) else (none)) else (none)) = some r := by rw [if_pos rfl] at H; exact H
                  clear H
                  have H := H1
                  clear H1
                  by_cases c83 : t222 = true
                  ·subst c83
                   have H1 : (if t217 ≤ 0 then (some (decide (t221 ≥ 0))) else (none)) = some r := by rw [if_pos rfl] at H; exact H
                   clear H
                   have H := H1
                   clear H1
                   by_cases c84 : t217 ≤ 0
                   ·rw [if_pos c84] at H
                    have c84b0 : decide (t217 ≤ 0) = true := decide_eq_true c84
                    clear c84
                    obtain rfl := Option.some.inj H
                    try go_wp2
                    have n0_ := Aside0.mk (blk_drew BK198.out)
                    have n1_ := Aside0.mk (blk_drew BK202.out)
                    have n2_ := Aside0.mk (blk_drew BK206.out)
                    have n3_ := Aside0.mk (blk_drew BK209.out)
                    have n4_ := Aside0.mk (below_drew1 HB.out)
                    clear BK198
                    clear BK202
                    clear BK206
                    clear BK209
                    clear HB
                    have BK198 := n0_
                    have BK202 := n1_
                    have BK206 := n2_
                    have BK209 := n3_
                    have HB := n4_
                    clear n0_ n1_ n2_ n3_ n4_
                    refine start_ (n := 10) (S := fun w' => w'.cell? ⟨gb198, 0, none⟩ = some (.int .i64 a0_0) ∧ w'.cell? ⟨gb198, 1, none⟩ = some (.int .i64 a0_1) ∧ w'.cell? ⟨gb198, 2, none⟩ = some (.bool true) ∧ w'.cell? ⟨gb198, 3, none⟩ = some (.slice (some ad201) l0_3.length c0_3) ∧ w'.cell? ⟨gb206, 0, none⟩ = some (.int .i64 t203) ∧ w'.cell? ⟨gb206, 1, none⟩ = some (.int .i64 t204)) (ds := []) #[false, false, false, false, false, false, false, false, false, false] (by kernel_rfl) rfl rfl ⟨(blk_cell BK198.out 0).trans rfl, (blk_cell BK198.out 1).trans rfl, (blk_cell BK198.out 2).trans rfl, (blk_cell BK198.out 3).trans rfl, (blk_cell BK206.out 0).trans rfl, (blk_cell BK206.out 1).trans rfl⟩ (fun hHeld => ?_); refine with_tabW assessorlaw51_DeadlinesKnots.tab18 assessorlaw51_DeadlinesKnots.bits18 (fun HT_ HW_ => ?_)
                    generalize wc.drew = w85 at BK198 BK202 BK206 BK209 HB hHeld ⊢
                    refine pure_ (i := 1) (N := some 107) (v := ?_) (a' := ?_) #[false, true, false, false, false, false, false, false, false, false] rfl rfl (any_of HT_.out (by kernel_rfl)) (fun _ _ _ h => h) (Or.inl ⟨by rfl, ?_⟩) ?_ ?_
                    rotate_left
                    ·intro w'
                     go_simp
                     with_reducible rfl
                    rotate_left
                    ·simp only [Act.put, List.setIfInBounds_toArray, List.set_cons_zero, List.set_cons_succ, i64_w, i32_w]
                     rfl
                    refine take_ (i := 0) (N := some 106) (v := ?_) (a' := ?_) #[true, true, false, false, false, false, false, false, false, false] rfl rfl (take_ofW HT_.out HW_.out (by kernel_rfl)) (fun _ _ _ h => h) (Or.inl ⟨by rfl, ?_⟩) hHeld ?_ ?_
                    rotate_left
                    ·rintro w' ⟨s0, s1, s2, s3, s4, s5⟩
                     go_simp
                     with_reducible rfl
                    rotate_left
                    ·simp only [Act.put, List.setIfInBounds_toArray, List.set_cons_zero, List.set_cons_succ, i64_w, i32_w]
                     rfl
                    refine take_ (i := 3) (N := some 109) (v := ?_) (a' := ?_) #[true, true, false, true, false, false, false, false, false, false] rfl rfl (take_ofW HT_.out HW_.out (by kernel_rfl)) (fun _ _ _ h => h) (Or.inl ⟨by rfl, ?_⟩) hHeld ?_ ?_
                    rotate_left
                    ·rintro w' ⟨s0, s1, s2, s3, s4, s5⟩
                     go_simp
                     with_reducible rfl
                    rotate_left
                    ·simp only [Act.put, List.setIfInBounds_toArray, List.set_cons_zero, List.set_cons_succ, i64_w, i32_w]
                     rfl
                    refine one_ (i := 2) (N := some 108) #[true, true, true, true, false, false, false, false, false, false] rfl rfl (one_of HT_.out (by kernel_rfl)) (by decide) (fun K hK => ?_)
                    refine goes_ Try.func11 (by kernel_rfl) rfl #[.agg #[.int .i64 a0_0, .int .i64 a0_1, .bool true, .slice (some ad201) l0_3.length c0_3], .int .i64 a2] (by rfl) rfl rfl (by (try simp only [List.map_toArray, List.map_cons, List.map_nil]); first | done | rfl | (simp only [List.length_drop, List.length_take]; rfl)) ?_
                    with_reducible refine (deadlines_Factor.calls kj50 a0_0 a0_1 true _ _ l0_3 a2 t215 t216 _ ?side1 ?side2 A77.out).mono ?_
                    (case side1 => repeat (first | exact (Kd.C_below HR0_3.out HB.out) | (with_reducible refine Kd.C_alloc ?_ _) | (with_reducible refine Kd.C_drewN ?_ _) | (with_reducible refine Kd.C_drew ?_)))
                    (case side2 => exact HC0_3.out)
                    rintro e w86 ⟨rfl, hb⟩
                    refine ⟨_, rfl, ?_⟩
                    have n0_ := Aside0.mk (blk_below (g := gb198) (o := .cells #[.int .i64 a0_0, .int .i64 a0_1, .bool true, .slice (some ad201) l0_3.length c0_3] 24 (0, 0)) (by (with_reducible repeat (first | refine blk_drewN ?_ _ | refine blk_drew ?_ | refine blk_alloc ?_ _)); exact BK198.out) hb)
                    have n1_ := Aside0.mk (blk_below (g := gb202) (o := .cells #[.int .i64 ((rd_T34 l0_3 (ji19)).f0), .int .i64 ((rd_T34 l0_3 (ji19)).f1)] 34 (0, 0)) (by (with_reducible repeat (first | refine blk_drewN ?_ _ | refine blk_drew ?_ | refine blk_alloc ?_ _)); exact BK202.out) hb)
                    have n2_ := Aside0.mk (blk_below (g := gb206) (o := .cells #[.int .i64 t203, .int .i64 t204] 27 (0, 0)) (by (with_reducible repeat (first | refine blk_drewN ?_ _ | refine blk_drew ?_ | refine blk_alloc ?_ _)); exact BK206.out) hb)
                    have n3_ := Aside0.mk (blk_below (g := gb209) (o := .cells #[.int .i64 x210000_50, .int .i64 x210001_50] 27 (0, 0)) (by (with_reducible repeat (first | refine blk_drewN ?_ _ | refine blk_drew ?_ | refine blk_alloc ?_ _)); exact BK209.out) hb)
                    have n4_ := Aside0.mk (below_step (by repeat (first | (with_reducible first | exact HB.out | apply below_alloc | apply pw_below_drewN | apply below_drew1 | refine below_set ?_ GE198.out | refine below_set ?_ GE202.out | refine below_set ?_ GE206.out | refine below_set ?_ GE209.out) | exact HB.out)) hb)
                    clear BK198
                    clear BK202
                    clear BK206
                    clear BK209
                    clear HB
                    have BK198 := n0_
                    have BK202 := n1_
                    have BK206 := n2_
                    have BK209 := n3_
                    have HB := n4_
                    clear n0_ n1_ n2_ n3_ n4_
                    (try clear hb)
                    (try clear hb2)
                    (try clear hk)
                    (try clear hi)
                    refine hK.out _ _ ⟨(blk_cell BK198.out 0).trans rfl, (blk_cell BK198.out 1).trans rfl, (blk_cell BK198.out 2).trans rfl, (blk_cell BK198.out 3).trans rfl, (blk_cell BK206.out 0).trans rfl, (blk_cell BK206.out 1).trans rfl⟩ (fun hHeld => ?_)
                    clear hK K
                    refine norm_ (a' := ?_) ?_ ?_
                    rotate_left
                    ·show Act.put _ (some 108) _ = _
                     simp only [Act.put, List.setIfInBounds_toArray, List.set_cons_zero, List.set_cons_succ, i64_w, i32_w]
                     rfl
                    refine one_ (i := 4) (N := some 110) #[true, true, true, true, true, false, false, false, false, false] rfl rfl (one_of HT_.out (by kernel_rfl)) (by decide) (fun K hK => ?_)
                    refine goes_ Try.func13 (by kernel_rfl) rfl #[.agg #[.int .i64 t215, .int .i64 t216], .agg #[.int .i64 t203, .int .i64 t204]] (by rfl) rfl rfl (by (try simp only [List.map_toArray, List.map_cons, List.map_nil]); first | done | rfl | (simp only [List.length_drop, List.length_take]; rfl)) ?_
                    with_reducible refine (assessorref46_Compare.calls kj50 t215 t216 t203 t204 t217 true _ A78.out).mono ?_
                    rintro e w87 ⟨rfl, hb⟩
                    refine ⟨_, rfl, ?_⟩
                    have n0_ := Aside0.mk (blk_below (g := gb198) (o := .cells #[.int .i64 a0_0, .int .i64 a0_1, .bool true, .slice (some ad201) l0_3.length c0_3] 24 (0, 0)) (by (with_reducible repeat (first | refine blk_drewN ?_ _ | refine blk_drew ?_ | refine blk_alloc ?_ _)); exact BK198.out) hb)
                    have n1_ := Aside0.mk (blk_below (g := gb202) (o := .cells #[.int .i64 ((rd_T34 l0_3 (ji19)).f0), .int .i64 ((rd_T34 l0_3 (ji19)).f1)] 34 (0, 0)) (by (with_reducible repeat (first | refine blk_drewN ?_ _ | refine blk_drew ?_ | refine blk_alloc ?_ _)); exact BK202.out) hb)
                    have n2_ := Aside0.mk (blk_below (g := gb206) (o := .cells #[.int .i64 t203, .int .i64 t204] 27 (0, 0)) (by (with_reducible repeat (first | refine blk_drewN ?_ _ | refine blk_drew ?_ | refine blk_alloc ?_ _)); exact BK206.out) hb)
                    have n3_ := Aside0.mk (blk_below (g := gb209) (o := .cells #[.int .i64 x210000_50, .int .i64 x210001_50] 27 (0, 0)) (by (with_reducible repeat (first | refine blk_drewN ?_ _ | refine blk_drew ?_ | refine blk_alloc ?_ _)); exact BK209.out) hb)
                    have n4_ := Aside0.mk (below_step (by repeat (first | (with_reducible first | exact HB.out | apply below_alloc | apply pw_below_drewN | apply below_drew1 | refine below_set ?_ GE198.out | refine below_set ?_ GE202.out | refine below_set ?_ GE206.out | refine below_set ?_ GE209.out) | exact HB.out)) hb)
                    clear BK198
                    clear BK202
                    clear BK206
                    clear BK209
                    clear HB
                    have BK198 := n0_
                    have BK202 := n1_
                    have BK206 := n2_
                    have BK209 := n3_
                    have HB := n4_
                    clear n0_ n1_ n2_ n3_ n4_
                    (try clear hb)
                    (try clear hb2)
                    (try clear hk)
                    (try clear hi)
                    refine hK.out _ _ ⟨(blk_cell BK198.out 0).trans rfl, (blk_cell BK198.out 1).trans rfl, (blk_cell BK198.out 2).trans rfl, (blk_cell BK198.out 3).trans rfl, (blk_cell BK206.out 0).trans rfl, (blk_cell BK206.out 1).trans rfl⟩ (fun hHeld => ?_)
                    clear hK K
                    refine norm_ (a' := ?_) ?_ ?_
                    rotate_left
                    ·show Act.put _ (some 110) _ = _
                     simp only [Act.put, List.setIfInBounds_toArray, List.set_cons_zero, List.set_cons_succ, i64_w, i32_w]
                     rfl
                    refine pure_ (i := 5) (N := some 105) (v := ?_) (a' := ?_) #[true, true, true, true, true, true, false, false, false, false] rfl rfl (any_of HT_.out (by kernel_rfl)) (fun _ _ _ h => h) (Or.inl ⟨by rfl, ?_⟩) ?_ ?_
                    rotate_left
                    ·intro w'
                     go_simp
                     with_reducible rfl
                    rotate_left
                    ·simp only [Act.put, List.setIfInBounds_toArray, List.set_cons_zero, List.set_cons_succ, i64_w, i32_w]
                     rfl
                    refine pure_ (i := 6) (N := some 111) (v := ?_) (a' := ?_) #[true, true, true, true, true, true, true, false, false, false] rfl rfl (any_of HT_.out (by kernel_rfl)) (fun _ _ _ h => h) (Or.inl ⟨by rfl, ?_⟩) ?_ ?_
                    rotate_left
                    ·intro w'
                     go_simp
                     with_reducible rfl
                    rotate_left
                    ·simp only [Act.put, List.setIfInBounds_toArray, List.set_cons_zero, List.set_cons_succ, i64_w, i32_w]
                     rfl
                    refine pure_ (i := 7) (N := some 112) (v := ?_) (a' := ?_) #[true, true, true, true, true, true, true, true, false, false] rfl rfl (any_of HT_.out (by kernel_rfl)) (fun _ _ _ h => h) (Or.inl ⟨by rfl, ?_⟩) ?_ ?_
                    rotate_left
                    ·intro w'
                     go_simp
                     with_reducible rfl
                    rotate_left
                    ·simp only [Act.put, List.setIfInBounds_toArray, List.set_cons_zero, List.set_cons_succ, i64_w, i32_w]
                     rfl
                    refine pure_ (i := 8) (N := some 12) (v := ?_) (a' := ?_) #[true, true, true, true, true, true, true, true, true, false] rfl rfl (any_of HT_.out (by kernel_rfl)) (fun _ _ _ h => h) (Or.inl ⟨by rfl, ?_⟩) ?_ ?_
                    rotate_left
                    ·intro w'
                     go_simp
                     with_reducible rfl
                    rotate_left
                    ·simp only [Act.put, List.setIfInBounds_toArray, List.set_cons_zero, List.set_cons_succ, i64_w, i32_w]
                     rfl
                    refine pure_ (i := 9) (N := some 13) (v := ?_) (a' := ?_) #[true, true, true, true, true, true, true, true, true, true] rfl rfl (any_of HT_.out (by kernel_rfl)) (fun _ _ _ h => h) (Or.inl ⟨by rfl, ?_⟩) ?_ ?_
                    rotate_left
                    ·intro w'
                     go_simp
                     with_reducible rfl
                    rotate_left
                    ·simp only [Act.put, List.setIfInBounds_toArray, List.set_cons_zero, List.set_cons_succ, i64_w, i32_w]
                     rfl
                    refine done_ (done_of HT_.out (by kernel_rfl)) ?_
                    try go_wp2
                    have n0_ := Aside0.mk (blk_drew BK198.out)
                    have n1_ := Aside0.mk (blk_drew BK202.out)
                    have n2_ := Aside0.mk (blk_drew BK206.out)
                    have n3_ := Aside0.mk (blk_drew BK209.out)
                    have n4_ := Aside0.mk (below_drew1 HB.out)
                    clear BK198
                    clear BK202
                    clear BK206
                    clear BK209
                    clear HB
                    have BK198 := n0_
                    have BK202 := n1_
                    have BK206 := n2_
                    have BK209 := n3_
                    have HB := n4_
                    clear n0_ n1_ n2_ n3_ n4_
                    refine start_ (n := 10) (S := fun w' => w'.cell? ⟨gb198, 0, none⟩ = some (.int .i64 a0_0) ∧ w'.cell? ⟨gb198, 1, none⟩ = some (.int .i64 a0_1) ∧ w'.cell? ⟨gb198, 2, none⟩ = some (.bool true) ∧ w'.cell? ⟨gb198, 3, none⟩ = some (.slice (some ad201) l0_3.length c0_3) ∧ w'.cell? ⟨gb209, 0, none⟩ = some (.int .i64 x210000_50) ∧ w'.cell? ⟨gb209, 1, none⟩ = some (.int .i64 x210001_50)) (ds := []) #[false, false, false, false, false, false, false, false, false, false] (by kernel_rfl) rfl rfl ⟨(blk_cell BK198.out 0).trans rfl, (blk_cell BK198.out 1).trans rfl, (blk_cell BK198.out 2).trans rfl, (blk_cell BK198.out 3).trans rfl, (blk_cell BK209.out 0).trans rfl, (blk_cell BK209.out 1).trans rfl⟩ (fun hHeld => ?_); refine with_tabW assessorlaw51_DeadlinesKnots.tab19 assessorlaw51_DeadlinesKnots.bits19 (fun HT_ HW_ => ?_)
                    generalize w87.drew = w88 at BK198 BK202 BK206 BK209 HB hHeld ⊢
                    refine pure_ (i := 1) (N := some 115) (v := ?_) (a' := ?_) #[false, true, false, false, false, false, false, false, false, false] rfl rfl (any_of HT_.out (by kernel_rfl)) (fun _ _ _ h => h) (Or.inl ⟨by rfl, ?_⟩) ?_ ?_
                    rotate_left
                    ·intro w'
                     go_simp
                     with_reducible rfl
                    rotate_left
                    ·simp only [Act.put, List.setIfInBounds_toArray, List.set_cons_zero, List.set_cons_succ, i64_w, i32_w]
                     rfl
                    refine take_ (i := 0) (N := some 114) (v := ?_) (a' := ?_) #[true, true, false, false, false, false, false, false, false, false] rfl rfl (take_ofW HT_.out HW_.out (by kernel_rfl)) (fun _ _ _ h => h) (Or.inl ⟨by rfl, ?_⟩) hHeld ?_ ?_
                    rotate_left
                    ·rintro w' ⟨s0, s1, s2, s3, s4, s5⟩
                     go_simp
                     with_reducible rfl
                    rotate_left
                    ·simp only [Act.put, List.setIfInBounds_toArray, List.set_cons_zero, List.set_cons_succ, i64_w, i32_w]
                     rfl
                    refine take_ (i := 3) (N := some 117) (v := ?_) (a' := ?_) #[true, true, false, true, false, false, false, false, false, false] rfl rfl (take_ofW HT_.out HW_.out (by kernel_rfl)) (fun _ _ _ h => h) (Or.inl ⟨by rfl, ?_⟩) hHeld ?_ ?_
                    rotate_left
                    ·rintro w' ⟨s0, s1, s2, s3, s4, s5⟩
                     go_simp
                     with_reducible rfl
                    rotate_left
                    ·simp only [Act.put, List.setIfInBounds_toArray, List.set_cons_zero, List.set_cons_succ, i64_w, i32_w]
                     rfl
                    refine one_ (i := 2) (N := some 116) #[true, true, true, true, false, false, false, false, false, false] rfl rfl (one_of HT_.out (by kernel_rfl)) (by decide) (fun K hK => ?_)
                    refine goes_ Try.func11 (by kernel_rfl) rfl #[.agg #[.int .i64 a0_0, .int .i64 a0_1, .bool true, .slice (some ad201) l0_3.length c0_3], .int .i64 a2] (by rfl) rfl rfl (by (try simp only [List.map_toArray, List.map_cons, List.map_nil]); first | done | rfl | (simp only [List.length_drop, List.length_take]; rfl)) ?_
                    with_reducible refine (deadlines_Factor.calls kj50 a0_0 a0_1 true _ _ l0_3 a2 t219 t220 _ ?side1 ?side2 A79.out).mono ?_
                    (case side1 => repeat (first | exact (Kd.C_below HR0_3.out HB.out) | (with_reducible refine Kd.C_alloc ?_ _) | (with_reducible refine Kd.C_drewN ?_ _) | (with_reducible refine Kd.C_drew ?_)))
                    (case side2 => exact HC0_3.out)
                    rintro e w89 ⟨rfl, hb⟩
                    refine ⟨_, rfl, ?_⟩
                    have n0_ := Aside0.mk (blk_below (g := gb198) (o := .cells #[.int .i64 a0_0, .int .i64 a0_1, .bool true, .slice (some ad201) l0_3.length c0_3] 24 (0, 0)) (by (with_reducible repeat (first | refine blk_drewN ?_ _ | refine blk_drew ?_ | refine blk_alloc ?_ _)); exact BK198.out) hb)
                    have n1_ := Aside0.mk (blk_below (g := gb202) (o := .cells #[.int .i64 ((rd_T34 l0_3 (ji19)).f0), .int .i64 ((rd_T34 l0_3 (ji19)).f1)] 34 (0, 0)) (by (with_reducible repeat (first | refine blk_drewN ?_ _ | refine blk_drew ?_ | refine blk_alloc ?_ _)); exact BK202.out) hb)
                    have n2_ := Aside0.mk (blk_below (g := gb206) (o := .cells #[.int .i64 t203, .int .i64 t204] 27 (0, 0)) (by (with_reducible repeat (first | refine blk_drewN ?_ _ | refine blk_drew ?_ | refine blk_alloc ?_ _)); exact BK206.out) hb)
                    have n3_ := Aside0.mk (blk_below (g := gb209) (o := .cells #[.int .i64 x210000_50, .int .i64 x210001_50] 27 (0, 0)) (by (with_reducible repeat (first | refine blk_drewN ?_ _ | refine blk_drew ?_ | refine blk_alloc ?_ _)); exact BK209.out) hb)
                    have n4_ := Aside0.mk (below_step (by repeat (first | (with_reducible first | exact HB.out | apply below_alloc | apply pw_below_drewN | apply below_drew1 | refine below_set ?_ GE198.out | refine below_set ?_ GE202.out | refine below_set ?_ GE206.out | refine below_set ?_ GE209.out) | exact HB.out)) hb)
                    clear BK198
                    clear BK202
                    clear BK206
                    clear BK209
                    clear HB
                    have BK198 := n0_
                    have BK202 := n1_
                    have BK206 := n2_
                    have BK209 := n3_
                    have HB := n4_
                    clear n0_ n1_ n2_ n3_ n4_
                    (try clear hb)
                    (try clear hb2)
                    (try clear hk)
                    (try clear hi)
                    refine hK.out _ _ ⟨(blk_cell BK198.out 0).trans rfl, (blk_cell BK198.out 1).trans rfl, (blk_cell BK198.out 2).trans rfl, (blk_cell BK198.out 3).trans rfl, (blk_cell BK209.out 0).trans rfl, (blk_cell BK209.out 1).trans rfl⟩ (fun hHeld => ?_)
                    clear hK K
                    refine norm_ (a' := ?_) ?_ ?_
                    rotate_left
                    ·show Act.put _ (some 116) _ = _
                     simp only [Act.put, List.setIfInBounds_toArray, List.set_cons_zero, List.set_cons_succ, i64_w, i32_w]
                     rfl
                    refine one_ (i := 4) (N := some 118) #[true, true, true, true, true, false, false, false, false, false] rfl rfl (one_of HT_.out (by kernel_rfl)) (by decide) (fun K hK => ?_)
                    refine goes_ Try.func13 (by kernel_rfl) rfl #[.agg #[.int .i64 t219, .int .i64 t220], .agg #[.int .i64 x210000_50, .int .i64 x210001_50]] (by rfl) rfl rfl (by (try simp only [List.map_toArray, List.map_cons, List.map_nil]); first | done | rfl | (simp only [List.length_drop, List.length_take]; rfl)) ?_
                    with_reducible refine (assessorref46_Compare.calls kj50 t219 t220 x210000_50 x210001_50 t221 true _ A80.out).mono ?_
                    rintro e w90 ⟨rfl, hb⟩
                    refine ⟨_, rfl, ?_⟩
                    have n0_ := Aside0.mk (blk_below (g := gb198) (o := .cells #[.int .i64 a0_0, .int .i64 a0_1, .bool true, .slice (some ad201) l0_3.length c0_3] 24 (0, 0)) (by (with_reducible repeat (first | refine blk_drewN ?_ _ | refine blk_drew ?_ | refine blk_alloc ?_ _)); exact BK198.out) hb)
                    have n1_ := Aside0.mk (blk_below (g := gb202) (o := .cells #[.int .i64 ((rd_T34 l0_3 (ji19)).f0), .int .i64 ((rd_T34 l0_3 (ji19)).f1)] 34 (0, 0)) (by (with_reducible repeat (first | refine blk_drewN ?_ _ | refine blk_drew ?_ | refine blk_alloc ?_ _)); exact BK202.out) hb)
                    have n2_ := Aside0.mk (blk_below (g := gb206) (o := .cells #[.int .i64 t203, .int .i64 t204] 27 (0, 0)) (by (with_reducible repeat (first | refine blk_drewN ?_ _ | refine blk_drew ?_ | refine blk_alloc ?_ _)); exact BK206.out) hb)
                    have n3_ := Aside0.mk (blk_below (g := gb209) (o := .cells #[.int .i64 x210000_50, .int .i64 x210001_50] 27 (0, 0)) (by (with_reducible repeat (first | refine blk_drewN ?_ _ | refine blk_drew ?_ | refine blk_alloc ?_ _)); exact BK209.out) hb)
                    have n4_ := Aside0.mk (below_step (by repeat (first | (with_reducible first | exact HB.out | apply below_alloc | apply pw_below_drewN | apply below_drew1 | refine below_set ?_ GE198.out | refine below_set ?_ GE202.out | refine below_set ?_ GE206.out | refine below_set ?_ GE209.out) | exact HB.out)) hb)
                    clear BK198
                    clear BK202
                    clear BK206
                    clear BK209
                    clear HB
                    have BK198 := n0_
                    have BK202 := n1_
                    have BK206 := n2_
                    have BK209 := n3_
                    have HB := n4_
                    clear n0_ n1_ n2_ n3_ n4_
                    (try clear hb)
                    (try clear hb2)
                    (try clear hk)
                    (try clear hi)
                    refine hK.out _ _ ⟨(blk_cell BK198.out 0).trans rfl, (blk_cell BK198.out 1).trans rfl, (blk_cell BK198.out 2).trans rfl, (blk_cell BK198.out 3).trans rfl, (blk_cell BK209.out 0).trans rfl, (blk_cell BK209.out 1).trans rfl⟩ (fun hHeld => ?_)
                    clear hK K
                    refine norm_ (a' := ?_) ?_ ?_
                    rotate_left
                    ·show Act.put _ (some 118) _ = _
                     simp only [Act.put, List.setIfInBounds_toArray, List.set_cons_zero, List.set_cons_succ, i64_w, i32_w]
                     rfl
                    refine pure_ (i := 5) (N := some 113) (v := ?_) (a' := ?_) #[true, true, true, true, true, true, false, false, false, false] rfl rfl (any_of HT_.out (by kernel_rfl)) (fun _ _ _ h => h) (Or.inl ⟨by rfl, ?_⟩) ?_ ?_
                    rotate_left
                    ·intro w'
                     go_simp
                     with_reducible rfl
                    rotate_left
                    ·simp only [Act.put, List.setIfInBounds_toArray, List.set_cons_zero, List.set_cons_succ, i64_w, i32_w]
                     rfl
                    refine pure_ (i := 6) (N := some 119) (v := ?_) (a' := ?_) #[true, true, true, true, true, true, true, false, false, false] rfl rfl (any_of HT_.out (by kernel_rfl)) (fun _ _ _ h => h) (Or.inl ⟨by rfl, ?_⟩) ?_ ?_
                    rotate_left
                    ·intro w'
                     go_simp
                     with_reducible rfl
                    rotate_left
                    ·simp only [Act.put, List.setIfInBounds_toArray, List.set_cons_zero, List.set_cons_succ, i64_w, i32_w]
                     rfl
                    refine pure_ (i := 7) (N := some 120) (v := ?_) (a' := ?_) #[true, true, true, true, true, true, true, true, false, false] rfl rfl (any_of HT_.out (by kernel_rfl)) (fun _ _ _ h => h) (Or.inl ⟨by rfl, ?_⟩) ?_ ?_
                    rotate_left
                    ·intro w'
                     go_simp
                     with_reducible rfl
                    rotate_left
                    ·simp only [Act.put, List.setIfInBounds_toArray, List.set_cons_zero, List.set_cons_succ, i64_w, i32_w]
                     rfl
                    refine pure_ (i := 8) (N := some 14) (v := ?_) (a' := ?_) #[true, true, true, true, true, true, true, true, true, false] rfl rfl (any_of HT_.out (by kernel_rfl)) (fun _ _ _ h => h) (Or.inl ⟨by rfl, ?_⟩) ?_ ?_
                    rotate_left
                    ·intro w'
                     go_simp
                     with_reducible rfl
                    rotate_left
                    ·simp only [Act.put, List.setIfInBounds_toArray, List.set_cons_zero, List.set_cons_succ, i64_w, i32_w]
                     rfl
                    refine pure_ (i := 9) (N := some 15) (v := ?_) (a' := ?_) #[true, true, true, true, true, true, true, true, true, true] rfl rfl (any_of HT_.out (by kernel_rfl)) (fun _ _ _ h => h) (Or.inl ⟨by rfl, ?_⟩) ?_ ?_
                    rotate_left
                    ·intro w'
                     go_simp
                     with_reducible rfl
                    rotate_left
                    ·simp only [Act.put, List.setIfInBounds_toArray, List.set_cons_zero, List.set_cons_succ, i64_w, i32_w]
                     rfl
                    refine done_ (done_of HT_.out (by kernel_rfl)) ?_
                    try go_wp2
                    go_ret
                    exact ⟨by first | rfl | (simp [errW_none, errW_some] <;> rfl) | (simp only [← hji19]; first | rfl | (simp [errW_none, errW_some] <;> rfl)) | (simp [*, errW_none, errW_some] <;> rfl), by repeat (first | (with_reducible first | exact HB.out | apply below_alloc | apply pw_below_drewN | apply below_drew1 | refine below_set ?_ GE198.out | refine below_set ?_ GE202.out | refine below_set ?_ GE206.out | refine below_set ?_ GE209.out) | exact HB.out)⟩
                   ·rw [if_neg c84] at H
                    exact absurd H (by simp)
                  ·replace c83 := Bool.eq_false_iff.mpr c83
                   subst c83
                   have H1 : (none) = some r := by rw [if_neg (show ¬ (false = true) by decide)] at H; exact H
                   clear H
                   have H := H1
                   clear H1
                   exact absurd H (by simp)
                 ·replace c82 := Bool.eq_false_iff.mpr c82
                  subst c82
                  have H1 : (none) = some r := by rw [if_neg (show ¬ (false = true) by decide)] at H; exact H
                  clear H
                  have H := H1
                  clear H1
                  exact absurd H (by simp)
                ·rw [if_neg c81] at H
                 exact absurd H (by simp)
       ·rw [if_neg c21] at H
        exact absurd H (by simp)
      ·rw [if_neg c20] at H
       exact absurd H (by simp)
 ·replace c5 := Bool.eq_false_iff.mpr c5
  subst c5
  have H1 : (none) = some r := by rw [if_neg (show ¬ (false = true) by decide)] at H; exact H
  clear H
  have H := H1
  clear H1
  exact absurd H (by simp)

end Go.Proofs.Ytbehhijmcnoeeaa.XA
