/- The functions of the given Go program that the law reaches, as Lean functions, each with a proof that the machine's call answers so; no conditions beyond the premises written in each. Laid by a program; Lean checks it. -/
import Derived.Test.YtbehhijmcnoeeaaXAx0
import Derived.Test.YtbehhijmcnoeeaaXAx3
import Derived.Test.YtbehhijmcnoeeaaXAx7
import Derived.Test.YtbehhijmcnoeeaaXAx11
import Derived.Test.YtbehhijmcnoeeaaXAx22
namespace Go.Proofs.Ytbehhijmcnoeeaa.XA
open Go.RowKit Go.Proofs.YtbehhijmcnoeeaaW.PrintWords Go.Proofs.YtbehhijmcnoeeaaW.PrintLast Go.Proofs.YtbehhijmcnoeeaaW.PrintMore
attribute [local go_sem] max2_int min2_int max_two min_two max_three min_three max_four min_four   -- for this text's walks alone
set_option linter.unusedVariables false
set_option linter.unusedSimpArgs false

/-! ### assessorlaw51_DeadlinesExtends: function 8 -/
mutual
def assessorlaw51_DeadlinesExtends.j0 : Nat → List (S49) → ByteArray → Int → Int → Bool → Int → Int → Bool → List (S34) → ByteArray → Int → Int → Option (Bool)
 | 0, _, _, _, _, _, _, _, _, _, _, _, _ => none
 | k + 1, x1, x3, x4, x5, x40, x300000, x300001, x300002, x300003, x301000, x301001, x301002 => if x40 = true then (some true) else ((deadlines_Due.f k x300000 x300001 x300002 x300003 x1 x3 x4).bind fun t304 => ((api_Extension.f x1).bind fun t305 => ((some (([(⟨x301000, x301001, x301002⟩ : S49)] : List (S49)) : List (S49))).bind fun y308 => (if t305.length + y308.length < 4398046511104 then ((deadlines_Due.f k x300000 x300001 x300002 x300003 (t305 ++ y308) x3 x4).bind fun t314 => (if t304 < x300000 then (assessorlaw51_DeadlinesExtends.j1 k x3 x4 x5 t304 t314 true x300000 x300001 x300002 x300003 x301000 x301001 x301002) else (if t314 < t304 then (assessorlaw51_DeadlinesExtends.j1 k x3 x4 x5 t304 t314 true x300000 x300001 x300002 x300003 x301000 x301001 x301002) else (if x301000.toList = x3.toList then (if x301002 > x4 then (assessorlaw51_DeadlinesExtends.j1 k x3 x4 x5 t304 t314 (t304 != t314) x300000 x300001 x300002 x300003 x301000 x301001 x301002) else (assessorlaw51_DeadlinesExtends.j1 k x3 x4 x5 t304 t314 false x300000 x300001 x300002 x300003 x301000 x301001 x301002)) else (assessorlaw51_DeadlinesExtends.j1 k x3 x4 x5 t304 t314 (t304 != t314) x300000 x300001 x300002 x300003 x301000 x301001 x301002))))) else (none)))))
def assessorlaw51_DeadlinesExtends.j1 : Nat → ByteArray → Int → Int → Int → Int → Bool → Int → Int → Bool → List (S34) → ByteArray → Int → Int → Option (Bool)
 | 0, _, _, _, _, _, _, _, _, _, _, _, _, _ => none
 | k + 1, x3, x4, x5, x13, x14, x80, x300000, x300001, x300002, x300003, x301000, x301001, x301002 => if x80 = true then (none) else (if x301000.toList = x3.toList then (if x301002 ≤ x4 then (if x301001 ≥ 0 then (if x301001 ≤ 1099511627776 then (if x14 < x301001 then (assessorlaw51_DeadlinesExtends.j2 k x4 x5 x13 true x300000 x300001 x300002 x300003) else ((deadlines_Late.f k x300000 x300001 x300002 x300003 x14 x14).bind fun t315 => (assessorlaw51_DeadlinesExtends.j2 k x4 x5 x13 (t315 != 0) x300000 x300001 x300002 x300003))) else ((deadlines_Late.f k x300000 x300001 x300002 x300003 x14 x14).bind fun t316 => (assessorlaw51_DeadlinesExtends.j2 k x4 x5 x13 (t316 != 0) x300000 x300001 x300002 x300003))) else ((deadlines_Late.f k x300000 x300001 x300002 x300003 x14 x14).bind fun t317 => (assessorlaw51_DeadlinesExtends.j2 k x4 x5 x13 (t317 != 0) x300000 x300001 x300002 x300003))) else ((deadlines_Late.f k x300000 x300001 x300002 x300003 x14 x14).bind fun t318 => (assessorlaw51_DeadlinesExtends.j2 k x4 x5 x13 (t318 != 0) x300000 x300001 x300002 x300003))) else ((deadlines_Late.f k x300000 x300001 x300002 x300003 x14 x14).bind fun t319 => (assessorlaw51_DeadlinesExtends.j2 k x4 x5 x13 (t319 != 0) x300000 x300001 x300002 x300003)))
def assessorlaw51_DeadlinesExtends.j2 : Nat → Int → Int → Int → Bool → Int → Int → Bool → List (S34) → Option (Bool)
 | 0, _, _, _, _, _, _, _, _ => none
 | k + 1, x4, x5, x13, x113, x300000, x300001, x300002, x300003 => if x113 = true then (none) else (if x5 < 0 then (assessorlaw51_DeadlinesExtends.j3 k x4 x5 x13 true x300000 x300001 x300002 x300003) else (if x5 > 1099511627776 then (assessorlaw51_DeadlinesExtends.j3 k x4 x5 x13 true x300000 x300001 x300002 x300003) else (if x4 > (wrap64 (1099511627776 - x5)) then (assessorlaw51_DeadlinesExtends.j3 k x4 x5 x13 true x300000 x300001 x300002 x300003) else (assessorlaw51_DeadlinesExtends.j3 k x4 x5 x13 (decide (x13 > (wrap64 (1099511627776 - x5)))) x300000 x300001 x300002 x300003))))
def assessorlaw51_DeadlinesExtends.j3 : Nat → Int → Int → Int → Bool → Int → Int → Bool → List (S34) → Option (Bool)
 | 0, _, _, _, _, _, _, _, _ => none
 | k + 1, x4, x5, x13, x131, x300000, x300001, x300002, x300003 => if x131 = true then (some true) else ((deadlines_Late.f k x300000 x300001 x300002 x300003 x13 x4).bind fun t320 => ((deadlines_Late.f k x300000 x300001 x300002 x300003 (wrap64 (x13 + x5)) (wrap64 (x4 + x5))).bind fun t321 => (some (t320 == t321))))
end
def assessorlaw51_DeadlinesExtends.f (k : Nat) (a0_0 : Int) (a0_1 : Int) (a0_2 : Bool) (l0_3 : List (S34)) (l1 : List (S49)) (a2_0 : ByteArray) (a2_1 : Int) (a2_2 : Int) (a3 : ByteArray) (a4 : Int) (a5 : Int) : Option (Bool) := (assessorlaw51_awake.f k).bind fun t301 => (if t301 = true then ((assessorlaw51_few.f k a0_0 a0_1 a0_2 l0_3 l1 a3).bind fun t302 => (if t302 = true then (if (a2_0.size : Int) > 40 then (assessorlaw51_DeadlinesExtends.j0 k l1 a3 a4 a5 true a0_0 a0_1 a0_2 l0_3 a2_0 a2_1 a2_2) else ((deadlines_Valid.f k a0_0 a0_1 a0_2 l0_3).bind fun t303 => (if t303 = true then (if a4 < 0 then (assessorlaw51_DeadlinesExtends.j0 k l1 a3 a4 a5 true a0_0 a0_1 a0_2 l0_3 a2_0 a2_1 a2_2) else (assessorlaw51_DeadlinesExtends.j0 k l1 a3 a4 a5 (decide (a4 > 1099511627776)) a0_0 a0_1 a0_2 l0_3 a2_0 a2_1 a2_2)) else (assessorlaw51_DeadlinesExtends.j0 k l1 a3 a4 a5 true a0_0 a0_1 a0_2 l0_3 a2_0 a2_1 a2_2)))) else (assessorlaw51_DeadlinesExtends.j0 k l1 a3 a4 a5 true a0_0 a0_1 a0_2 l0_3 a2_0 a2_1 a2_2))) else (none))
theorem assessorlaw51_DeadlinesExtends.mono_l : ∀ k, (∀ y0 y1 y2 y3 y4 y5 y6 y7 y8 y9 y10 y11, LeO (assessorlaw51_DeadlinesExtends.j0 k y0 y1 y2 y3 y4 y5 y6 y7 y8 y9 y10 y11) (assessorlaw51_DeadlinesExtends.j0 (k + 1) y0 y1 y2 y3 y4 y5 y6 y7 y8 y9 y10 y11)) ∧ (∀ y0 y1 y2 y3 y4 y5 y6 y7 y8 y9 y10 y11 y12, LeO (assessorlaw51_DeadlinesExtends.j1 k y0 y1 y2 y3 y4 y5 y6 y7 y8 y9 y10 y11 y12) (assessorlaw51_DeadlinesExtends.j1 (k + 1) y0 y1 y2 y3 y4 y5 y6 y7 y8 y9 y10 y11 y12)) ∧ (∀ y0 y1 y2 y3 y4 y5 y6 y7, LeO (assessorlaw51_DeadlinesExtends.j2 k y0 y1 y2 y3 y4 y5 y6 y7) (assessorlaw51_DeadlinesExtends.j2 (k + 1) y0 y1 y2 y3 y4 y5 y6 y7)) ∧ (∀ y0 y1 y2 y3 y4 y5 y6 y7, LeO (assessorlaw51_DeadlinesExtends.j3 k y0 y1 y2 y3 y4 y5 y6 y7) (assessorlaw51_DeadlinesExtends.j3 (k + 1) y0 y1 y2 y3 y4 y5 y6 y7))
 | 0 => ⟨fun _ _ _ _ _ _ _ _ _ _ _ _ r h => by simp [assessorlaw51_DeadlinesExtends.j0] at h, fun _ _ _ _ _ _ _ _ _ _ _ _ _ r h => by simp [assessorlaw51_DeadlinesExtends.j1] at h, fun _ _ _ _ _ _ _ _ r h => by simp [assessorlaw51_DeadlinesExtends.j2] at h, fun _ _ _ _ _ _ _ _ r h => by simp [assessorlaw51_DeadlinesExtends.j3] at h⟩
 | k + 1 => by
  obtain ⟨ih0, ih1, ih2, ih3⟩ := assessorlaw51_DeadlinesExtends.mono_l k
  refine ⟨?_, ?_, ?_, ?_⟩
  ·intro y0 y1 y2 y3 y4 y5 y6 y7 y8 y9 y10 y11
   unfold assessorlaw51_DeadlinesExtends.j0
   repeat' first
   | (with_reducible exact ih0 _ _ _ _ _ _ _ _ _ _ _ _)
   | (with_reducible exact ih1 _ _ _ _ _ _ _ _ _ _ _ _ _)
   | (with_reducible exact ih2 _ _ _ _ _ _ _ _)
   | (with_reducible exact ih3 _ _ _ _ _ _ _ _)
   | (with_reducible exact assessorlaw51_awake.mono _)
   | (with_reducible exact assessorlaw51_few.mono _ _ _ _ _ _ _)
   | (with_reducible exact deadlines_Due.mono _ _ _ _ _ _ _ _)
   | (with_reducible exact deadlines_Late.mono _ _ _ _ _ _ _)
   | (with_reducible exact deadlines_Valid.mono _ _ _ _ _)
   | (with_reducible exact LeO.refl _)
   | (with_reducible exact LeO.none _)
   | (with_reducible refine LeO.ite ?_ ?_)
   | (with_reducible refine LeO.bind ?_ (fun _ => ?_))
   | exact ih0 _ _ _ _ _ _ _ _ _ _ _ _
   | exact ih1 _ _ _ _ _ _ _ _ _ _ _ _ _
   | exact ih2 _ _ _ _ _ _ _ _
   | exact ih3 _ _ _ _ _ _ _ _
   | exact assessorlaw51_awake.mono _
   | exact assessorlaw51_few.mono _ _ _ _ _ _ _
   | exact deadlines_Due.mono _ _ _ _ _ _ _ _
   | exact deadlines_Late.mono _ _ _ _ _ _ _
   | exact deadlines_Valid.mono _ _ _ _ _
   | exact LeO.none _
   | refine LeO.ite ?_ ?_
   | refine LeO.bind ?_ (fun _ => ?_)
  ·intro y0 y1 y2 y3 y4 y5 y6 y7 y8 y9 y10 y11 y12
   unfold assessorlaw51_DeadlinesExtends.j1
   repeat' first
   | (with_reducible exact ih0 _ _ _ _ _ _ _ _ _ _ _ _)
   | (with_reducible exact ih1 _ _ _ _ _ _ _ _ _ _ _ _ _)
   | (with_reducible exact ih2 _ _ _ _ _ _ _ _)
   | (with_reducible exact ih3 _ _ _ _ _ _ _ _)
   | (with_reducible exact assessorlaw51_awake.mono _)
   | (with_reducible exact assessorlaw51_few.mono _ _ _ _ _ _ _)
   | (with_reducible exact deadlines_Due.mono _ _ _ _ _ _ _ _)
   | (with_reducible exact deadlines_Late.mono _ _ _ _ _ _ _)
   | (with_reducible exact deadlines_Valid.mono _ _ _ _ _)
   | (with_reducible exact LeO.refl _)
   | (with_reducible exact LeO.none _)
   | (with_reducible refine LeO.ite ?_ ?_)
   | (with_reducible refine LeO.bind ?_ (fun _ => ?_))
   | exact ih0 _ _ _ _ _ _ _ _ _ _ _ _
   | exact ih1 _ _ _ _ _ _ _ _ _ _ _ _ _
   | exact ih2 _ _ _ _ _ _ _ _
   | exact ih3 _ _ _ _ _ _ _ _
   | exact assessorlaw51_awake.mono _
   | exact assessorlaw51_few.mono _ _ _ _ _ _ _
   | exact deadlines_Due.mono _ _ _ _ _ _ _ _
   | exact deadlines_Late.mono _ _ _ _ _ _ _
   | exact deadlines_Valid.mono _ _ _ _ _
   | exact LeO.none _
   | refine LeO.ite ?_ ?_
   | refine LeO.bind ?_ (fun _ => ?_)
  ·intro y0 y1 y2 y3 y4 y5 y6 y7
   unfold assessorlaw51_DeadlinesExtends.j2
   repeat' first
   | (with_reducible exact ih0 _ _ _ _ _ _ _ _ _ _ _ _)
   | (with_reducible exact ih1 _ _ _ _ _ _ _ _ _ _ _ _ _)
   | (with_reducible exact ih2 _ _ _ _ _ _ _ _)
   | (with_reducible exact ih3 _ _ _ _ _ _ _ _)
   | (with_reducible exact assessorlaw51_awake.mono _)
   | (with_reducible exact assessorlaw51_few.mono _ _ _ _ _ _ _)
   | (with_reducible exact deadlines_Due.mono _ _ _ _ _ _ _ _)
   | (with_reducible exact deadlines_Late.mono _ _ _ _ _ _ _)
   | (with_reducible exact deadlines_Valid.mono _ _ _ _ _)
   | (with_reducible exact LeO.refl _)
   | (with_reducible exact LeO.none _)
   | (with_reducible refine LeO.ite ?_ ?_)
   | (with_reducible refine LeO.bind ?_ (fun _ => ?_))
   | exact ih0 _ _ _ _ _ _ _ _ _ _ _ _
   | exact ih1 _ _ _ _ _ _ _ _ _ _ _ _ _
   | exact ih2 _ _ _ _ _ _ _ _
   | exact ih3 _ _ _ _ _ _ _ _
   | exact assessorlaw51_awake.mono _
   | exact assessorlaw51_few.mono _ _ _ _ _ _ _
   | exact deadlines_Due.mono _ _ _ _ _ _ _ _
   | exact deadlines_Late.mono _ _ _ _ _ _ _
   | exact deadlines_Valid.mono _ _ _ _ _
   | exact LeO.none _
   | refine LeO.ite ?_ ?_
   | refine LeO.bind ?_ (fun _ => ?_)
  ·intro y0 y1 y2 y3 y4 y5 y6 y7
   unfold assessorlaw51_DeadlinesExtends.j3
   repeat' first
   | (with_reducible exact ih0 _ _ _ _ _ _ _ _ _ _ _ _)
   | (with_reducible exact ih1 _ _ _ _ _ _ _ _ _ _ _ _ _)
   | (with_reducible exact ih2 _ _ _ _ _ _ _ _)
   | (with_reducible exact ih3 _ _ _ _ _ _ _ _)
   | (with_reducible exact assessorlaw51_awake.mono _)
   | (with_reducible exact assessorlaw51_few.mono _ _ _ _ _ _ _)
   | (with_reducible exact deadlines_Due.mono _ _ _ _ _ _ _ _)
   | (with_reducible exact deadlines_Late.mono _ _ _ _ _ _ _)
   | (with_reducible exact deadlines_Valid.mono _ _ _ _ _)
   | (with_reducible exact LeO.refl _)
   | (with_reducible exact LeO.none _)
   | (with_reducible refine LeO.ite ?_ ?_)
   | (with_reducible refine LeO.bind ?_ (fun _ => ?_))
   | exact ih0 _ _ _ _ _ _ _ _ _ _ _ _
   | exact ih1 _ _ _ _ _ _ _ _ _ _ _ _ _
   | exact ih2 _ _ _ _ _ _ _ _
   | exact ih3 _ _ _ _ _ _ _ _
   | exact assessorlaw51_awake.mono _
   | exact assessorlaw51_few.mono _ _ _ _ _ _ _
   | exact deadlines_Due.mono _ _ _ _ _ _ _ _
   | exact deadlines_Late.mono _ _ _ _ _ _ _
   | exact deadlines_Valid.mono _ _ _ _ _
   | exact LeO.none _
   | refine LeO.ite ?_ ?_
   | refine LeO.bind ?_ (fun _ => ?_)
theorem assessorlaw51_DeadlinesExtends.mono : ∀ a0 a1 a2 a3 a4 a5 a6 a7 a8 a9 a10 k, LeO (assessorlaw51_DeadlinesExtends.f k a0 a1 a2 a3 a4 a5 a6 a7 a8 a9 a10) (assessorlaw51_DeadlinesExtends.f (k + 1) a0 a1 a2 a3 a4 a5 a6 a7 a8 a9 a10) := by
 intro a0 a1 a2 a3 a4 a5 a6 a7 a8 a9 a10 k
 obtain ⟨ih0, ih1, ih2, ih3⟩ := assessorlaw51_DeadlinesExtends.mono_l k
 unfold assessorlaw51_DeadlinesExtends.f
 repeat' first
   | (with_reducible exact ih0 _ _ _ _ _ _ _ _ _ _ _ _)
   | (with_reducible exact ih1 _ _ _ _ _ _ _ _ _ _ _ _ _)
   | (with_reducible exact ih2 _ _ _ _ _ _ _ _)
   | (with_reducible exact ih3 _ _ _ _ _ _ _ _)
   | (with_reducible exact assessorlaw51_awake.mono _)
   | (with_reducible exact assessorlaw51_few.mono _ _ _ _ _ _ _)
   | (with_reducible exact deadlines_Due.mono _ _ _ _ _ _ _ _)
   | (with_reducible exact deadlines_Late.mono _ _ _ _ _ _ _)
   | (with_reducible exact deadlines_Valid.mono _ _ _ _ _)
   | (with_reducible exact LeO.refl _)
   | (with_reducible exact LeO.none _)
   | (with_reducible refine LeO.ite ?_ ?_)
   | (with_reducible refine LeO.bind ?_ (fun _ => ?_))
   | exact ih0 _ _ _ _ _ _ _ _ _ _ _ _
   | exact ih1 _ _ _ _ _ _ _ _ _ _ _ _ _
   | exact ih2 _ _ _ _ _ _ _ _
   | exact ih3 _ _ _ _ _ _ _ _
   | exact assessorlaw51_awake.mono _
   | exact assessorlaw51_few.mono _ _ _ _ _ _ _
   | exact deadlines_Due.mono _ _ _ _ _ _ _ _
   | exact deadlines_Late.mono _ _ _ _ _ _ _
   | exact deadlines_Valid.mono _ _ _ _ _
   | exact LeO.none _
   | refine LeO.ite ?_ ?_
   | refine LeO.bind ?_ (fun _ => ?_)
def assessorlaw51_DeadlinesExtends.T5 : Bool × List (List Nat × List Nat) := (true, [([], []), ([], []), ([], []), ([], []), ([0, 1, 2, 3], [0, 1, 2, 3]), ([], []), ([], []), ([6, 4], [6]), ([], []), ([8], [8]), ([7, 9, 7], [7, 9]), ([], []), ([], []), ([5, 10, 11, 12, 10], [5, 10, 11, 12]), ([4, 13, 0, 1, 2, 3, 4], [4]), ([13, 14, 0, 1, 2, 3, 4, 5, 6, 7, 8, 9, 10, 11, 12, 13, 14], [13])])
def assessorlaw51_DeadlinesExtends.B5 : List Nat := [0, 0, 0, 0, 15, 0, 0, 95, 0, 256, 991, 0, 0, 8191, 16383, 32767]
theorem assessorlaw51_DeadlinesExtends.tab5 : rtab .any (opsOf Try.f8 5) = assessorlaw51_DeadlinesExtends.T5 := by kernel_rfl
theorem assessorlaw51_DeadlinesExtends.bits5 : waitsOk assessorlaw51_DeadlinesExtends.T5.2 assessorlaw51_DeadlinesExtends.B5 = true := by kernel_rfl
def assessorlaw51_DeadlinesExtends.T12 : Bool × List (List Nat × List Nat) := (true, [([], []), ([], []), ([], []), ([0, 1, 2], [0, 1, 2]), ([], []), ([], []), ([], []), ([5, 6], [5, 6]), ([], []), ([], []), ([8, 9], [8, 9]), ([4, 7, 10, 3], [4, 7, 10]), ([3, 11], [3, 11]), ([12, 11, 0, 1, 2, 3, 4, 5, 6, 7, 8, 9, 10, 11, 12], [12])])
def assessorlaw51_DeadlinesExtends.B12 : List Nat := [0, 0, 0, 7, 0, 0, 0, 96, 0, 0, 768, 2047, 4095, 8191]
theorem assessorlaw51_DeadlinesExtends.tab12 : rtab .any (opsOf Try.f8 12) = assessorlaw51_DeadlinesExtends.T12 := by kernel_rfl
theorem assessorlaw51_DeadlinesExtends.bits12 : waitsOk assessorlaw51_DeadlinesExtends.T12.2 assessorlaw51_DeadlinesExtends.B12 = true := by kernel_rfl
set_option maxHeartbeats 8000000 in
set_option maxRecDepth 100000 in
theorem assessorlaw51_DeadlinesExtends.calls (k : Nat) (a0_0 : Int) (a0_1 : Int) (a0_2 : Bool) (A0_3 : Option Addr) (c0_3 : Nat) (l0_3 : List (S34)) (A1 : Option Addr) (c1 : Nat) (l1 : List (S49)) (a2_0 : ByteArray) (a2_1 : Int) (a2_2 : Int) (a3 : ByteArray) (a4 : Int) (a5 : Int) (r : Bool) (w : World) (hr0_3 : Kd.C k34 w A0_3 l0_3.length l0_3) (hc0_3 : l0_3.length ≤ c0_3) (hr1 : Kd.C k49 w A1 l1.length l1) (hc1 : l1.length ≤ c1) (h : assessorlaw51_DeadlinesExtends.f k a0_0 a0_1 a0_2 l0_3 l1 a2_0 a2_1 a2_2 a3 a4 a5 = some r) :
  Calls Try.prog 8 #[.agg #[.int .i64 a0_0, .int .i64 a0_1, .bool a0_2, .slice A0_3 l0_3.length c0_3], .slice A1 l1.length c1, .agg #[.string a2_0, .int .i64 a2_1, .int .i64 a2_2], .string a3, .int .i64 a4, .int .i64 a5] w fun e w' => e = .returned (.bool r) ∧ Below w.heap.size w w' := by
 have hu24 := Try.underlying24
 have hu49 := Try.underlying49
 have HR0_3 := Aside0.mk hr0_3
 have HC0_3 := Aside0.mk hc0_3
 clear hr0_3 hc0_3
 have HR1 := Aside0.mk hr1
 have HC1 := Aside0.mk hc1
 clear hr1 hc1
 have HB := Aside0.mk (Below.refl w.heap.size w)
 have H : ((assessorlaw51_awake.f k).bind fun t301 => (if t301 = true then ((assessorlaw51_few.f k a0_0 a0_1 a0_2 l0_3 l1 a3).bind fun t302 => (if t302 = true then (if (a2_0.size : Int) > 40 then (assessorlaw51_DeadlinesExtends.j0 k l1 a3 a4 a5 true a0_0 a0_1 a0_2 l0_3 a2_0 a2_1 a2_2) else ((deadlines_Valid.f k a0_0 a0_1 a0_2 l0_3).bind fun t303 => (if t303 = true then (if a4 < 0 then (assessorlaw51_DeadlinesExtends.j0 k l1 a3 a4 a5 true a0_0 a0_1 a0_2 l0_3 a2_0 a2_1 a2_2) else (assessorlaw51_DeadlinesExtends.j0 k l1 a3 a4 a5 (decide (a4 > 1099511627776)) a0_0 a0_1 a0_2 l0_3 a2_0 a2_1 a2_2)) else (assessorlaw51_DeadlinesExtends.j0 k l1 a3 a4 a5 true a0_0 a0_1 a0_2 l0_3 a2_0 a2_1 a2_2)))) else (assessorlaw51_DeadlinesExtends.j0 k l1 a3 a4 a5 true a0_0 a0_1 a0_2 l0_3 a2_0 a2_1 a2_2))) else (none))) = some r := h
 clear h
 replace H := Option.bind_eq_some_iff.mp H
 obtain ⟨t301, A70, H⟩ := H
 replace H : (if t301 = true then ((assessorlaw51_few.f k a0_0 a0_1 a0_2 l0_3 l1 a3).bind fun t302 => (if t302 = true then (if (a2_0.size : Int) > 40 then (assessorlaw51_DeadlinesExtends.j0 k l1 a3 a4 a5 true a0_0 a0_1 a0_2 l0_3 a2_0 a2_1 a2_2) else ((deadlines_Valid.f k a0_0 a0_1 a0_2 l0_3).bind fun t303 => (if t303 = true then (if a4 < 0 then (assessorlaw51_DeadlinesExtends.j0 k l1 a3 a4 a5 true a0_0 a0_1 a0_2 l0_3 a2_0 a2_1 a2_2) else (assessorlaw51_DeadlinesExtends.j0 k l1 a3 a4 a5 (decide (a4 > 1099511627776)) a0_0 a0_1 a0_2 l0_3 a2_0 a2_1 a2_2)) else (assessorlaw51_DeadlinesExtends.j0 k l1 a3 a4 a5 true a0_0 a0_1 a0_2 l0_3 a2_0 a2_1 a2_2)))) else (assessorlaw51_DeadlinesExtends.j0 k l1 a3 a4 a5 true a0_0 a0_1 a0_2 l0_3 a2_0 a2_1 a2_2))) else (none)) = some r := H
 have A7 := Aside0.mk A70
 clear A70
 by_cases c8 : t301 = true
 ·subst c8
  have H1 : ((assessorlaw51_few.f k a0_0 a0_1 a0_2 l0_3 l1 a3).bind fun t302 => (if t302 = true then (if (a2_0.size : Int) > 40 then (assessorlaw51_DeadlinesExtends.j0 k l1 a3 a4 a5 true a0_0 a0_1 a0_2 l0_3 a2_0 a2_1 a2_2) else ((deadlines_Valid.f k a0_0 a0_1 a0_2 l0_3).bind fun t303 => (if t303 = true then (if a4 < 0 then (assessorlaw51_DeadlinesExtends.j0 k l1 a3 a4 a5 true a0_0 a0_1 a0_2 l0_3 a2_0 a2_1 a2_2) else (assessorlaw51_DeadlinesExtends.j0 k l1 a3 a4 a5 (decide (a4 > 1099511627776)) a0_0 a0_1 a0_2 l0_3 a2_0 a2_1 a2_2)) else (assessorlaw51_DeadlinesExtends.j0 k l1 a3 a4 a5 true a0_0 a0_1 a0_2 l0_3 a2_0 a2_1 a2_2)))) else (assessorlaw51_DeadlinesExtends.j0 k l1 a3 a4 a5 true a0_0 a0_1 a0_2 l0_3 a2_0 a2_1 a2_2))) = some r := by rw [if_pos rfl] at H; exact H
  clear H
  have H := H1
  clear H1
  have HC9 := Aside0.mk H
  clear H
  go_enter Try.func8, Try.ntmps8
  go_upto_region 3 with (first | ((with_reducible refine gate_dst (N := 6) rfl ?_); (try (refine gate_guard (by rfl) ?_; dsimp only)); refine box_event ?hg (N := 6) ?hd (cs := #[.int .i64 a0_0, .int .i64 a0_1, .bool a0_2, .slice A0_3 l0_3.length c0_3]) (t := 24) ?hr ?_; (case hd => rfl); (case hg => rfl); (case hr => first | (go_simp; done) | (go_simp; rfl)); intro gb299 hg w10 hbox hb; have n0_ := Aside0.mk (below_step (by repeat (first | (with_reducible first | exact HB.out | apply below_alloc | apply pw_below_drewN | apply below_drew1) | exact HB.out)) hb); have n1_ := Aside0.mk (hbox); have n2_ := Aside0.mk ((by rw [hg]; exact (below_size (by repeat (first | (with_reducible first | exact HB.out | apply below_alloc | apply pw_below_drewN | apply below_drew1) | exact HB.out))) : w.heap.size ≤ gb299)); have n3_ := Aside0.mk ((by rw [hg]; exact (below_size (by repeat (first | (with_reducible first | exact HB.out | apply below_alloc | apply pw_below_drewN | apply below_drew1) | exact HB.out))) : w.heap.size ≤ gb299)); clear HB; have HB := n0_; have BK299 := n1_; have GW299 := n2_; have GE299 := n3_; clear n0_ n1_ n2_ n3_; clear hb hbox hg) | ((with_reducible refine gate_dst (N := 8) rfl ?_); (try (refine gate_guard (by rfl) ?_; dsimp only)); refine box_event ?hg (N := 8) ?hd (cs := #[.string a2_0, .int .i64 a2_1, .int .i64 a2_2]) (t := 49) ?hr ?_; (case hd => rfl); (case hg => rfl); (case hr => first | (go_simp; done) | (go_simp; rfl)); intro gb300 hg w11 hbox hb; have n0_ := Aside0.mk (blk_below (g := gb299) (o := .cells #[.int .i64 a0_0, .int .i64 a0_1, .bool a0_2, .slice A0_3 l0_3.length c0_3] 24 (0, 0)) (by (with_reducible repeat (first | refine blk_drewN ?_ _ | refine blk_drew ?_ | refine blk_alloc ?_ _)); exact BK299.out) hb); have n1_ := Aside0.mk (below_step (by repeat (first | (with_reducible first | exact HB.out | apply below_alloc | apply pw_below_drewN | apply below_drew1 | refine below_set ?_ GE299.out) | exact HB.out)) hb); have n2_ := Aside0.mk (hbox); have n3_ := Aside0.mk ((by rw [hg]; exact (below_size (by repeat (first | (with_reducible first | exact HB.out | apply below_alloc | apply pw_below_drewN | apply below_drew1 | refine below_set ?_ GE299.out) | exact HB.out))) : w.heap.size ≤ gb300)); have n4_ := Aside0.mk ((by rw [hg]; exact (below_size (by repeat (first | (with_reducible first | exact HB.out | apply below_alloc | apply pw_below_drewN | apply below_drew1 | refine below_set ?_ GE299.out) | exact HB.out))) : w.heap.size ≤ gb300)); have n5_ := Aside0.mk ((by rw [hg]; exact Nat.ne_of_lt (blk_lt (g := gb299) (o := .cells #[.int .i64 a0_0, .int .i64 a0_1, .bool a0_2, .slice A0_3 l0_3.length c0_3] 24 (0, 0)) (by (with_reducible repeat (first | refine blk_drewN ?_ _ | refine blk_drew ?_ | refine blk_alloc ?_ _)); exact BK299.out)) : gb299 ≠ gb300)); have n6_ := Aside0.mk ((by rw [hg]; exact Nat.ne_of_gt (blk_lt (g := gb299) (o := .cells #[.int .i64 a0_0, .int .i64 a0_1, .bool a0_2, .slice A0_3 l0_3.length c0_3] 24 (0, 0)) (by (with_reducible repeat (first | refine blk_drewN ?_ _ | refine blk_drew ?_ | refine blk_alloc ?_ _)); exact BK299.out)) : gb300 ≠ gb299)); clear BK299; clear HB; have BK299 := n0_; have HB := n1_; have BK300 := n2_; have GW300 := n3_; have GE300 := n4_; have NB299_300 := n5_; have NB300_299 := n6_; clear n0_ n1_ n2_ n3_ n4_ n5_ n6_; clear hb hbox hg) | ((with_reducible refine gate_callee (f := 10) rfl ?_); refine goesL_ (some 15) rfl rfl Try.func10 (by kernel_rfl) rfl #[] rfl (by (try simp only [List.map_toArray, List.map_cons, List.map_nil]); first | done | rfl | (simp only [List.length_drop, List.length_take]; rfl)) ?_; (with_reducible refine (assessorlaw51_awake.calls k  true _ A7.out).mono ?_); rintro e w12 ⟨rfl, hb⟩; refine ⟨_, rfl, ?_⟩; have n0_ := Aside0.mk (blk_below (g := gb299) (o := .cells #[.int .i64 a0_0, .int .i64 a0_1, .bool a0_2, .slice A0_3 l0_3.length c0_3] 24 (0, 0)) (by (with_reducible repeat (first | refine blk_drewN ?_ _ | refine blk_drew ?_ | refine blk_alloc ?_ _)); exact BK299.out) hb); have n1_ := Aside0.mk (blk_below (g := gb300) (o := .cells #[.string a2_0, .int .i64 a2_1, .int .i64 a2_2] 49 (0, 0)) (by (with_reducible repeat (first | refine blk_drewN ?_ _ | refine blk_drew ?_ | refine blk_alloc ?_ _)); exact BK300.out) hb); have n2_ := Aside0.mk (below_step (by repeat (first | (with_reducible first | exact HB.out | apply below_alloc | apply pw_below_drewN | apply below_drew1 | refine below_set ?_ GE299.out | refine below_set ?_ GE300.out) | exact HB.out)) hb); clear BK299; clear BK300; clear HB; have BK299 := n0_; have BK300 := n1_; have HB := n2_; clear n0_ n1_ n2_; (try clear hb); (try clear hb2); (try clear hk); (try clear hi)))
  (try simp only [Act.put, List.setIfInBounds_toArray, List.set_cons_zero, List.set_cons_succ])
  go_cut [40] (fun v40 wc => ∃ (kq : Nat) (x40_8 : Bool), v40 = .bool x40_8 ∧ Aside0 (assessorlaw51_DeadlinesExtends.j0 kq l1 a3 a4 a5 x40_8 a0_0 a0_1 a0_2 l0_3 a2_0 a2_1 a2_2 = some r) ∧ Aside0 (kq ≤ k) ∧ Aside0 (wc.heap[gb299]? = some (.cells #[.int .i64 a0_0, .int .i64 a0_1, .bool a0_2, (.slice A0_3 l0_3.length c0_3)] 24 (0, 0))) ∧ Aside0 (wc.heap[gb300]? = some (.cells #[.string a2_0, .int .i64 a2_1, .int .i64 a2_2] 49 (0, 0))) ∧ Aside0 (Below w.heap.size w wc))
  case first =>
   have H := HC9.out
   clear HC9
   replace H := Option.bind_eq_some_iff.mp H
   obtain ⟨t302, A130, H⟩ := H
   replace H : (if t302 = true then (if (a2_0.size : Int) > 40 then (assessorlaw51_DeadlinesExtends.j0 k l1 a3 a4 a5 true a0_0 a0_1 a0_2 l0_3 a2_0 a2_1 a2_2) else ((deadlines_Valid.f k a0_0 a0_1 a0_2 l0_3).bind fun t303 => (if t303 = true then (if a4 < 0 then (assessorlaw51_DeadlinesExtends.j0 k l1 a3 a4 a5 true a0_0 a0_1 a0_2 l0_3 a2_0 a2_1 a2_2) else (assessorlaw51_DeadlinesExtends.j0 k l1 a3 a4 a5 (decide (a4 > 1099511627776)) a0_0 a0_1 a0_2 l0_3 a2_0 a2_1 a2_2)) else (assessorlaw51_DeadlinesExtends.j0 k l1 a3 a4 a5 true a0_0 a0_1 a0_2 l0_3 a2_0 a2_1 a2_2)))) else (assessorlaw51_DeadlinesExtends.j0 k l1 a3 a4 a5 true a0_0 a0_1 a0_2 l0_3 a2_0 a2_1 a2_2)) = some r := H
   have A13 := Aside0.mk A130
   clear A130
   by_cases c14 : t302 = true
   ·subst c14
    have H1 : (if (a2_0.size : Int) > 40 then (assessorlaw51_DeadlinesExtends.j0 k l1 a3 a4 a5 true a0_0 a0_1 a0_2 l0_3 a2_0 a2_1 a2_2) else ((deadlines_Valid.f k a0_0 a0_1 a0_2 l0_3).bind fun t303 => (if t303 = true then (if a4 < 0 then (assessorlaw51_DeadlinesExtends.j0 k l1 a3 a4 a5 true a0_0 a0_1 a0_2 l0_3 a2_0 a2_1 a2_2) else (assessorlaw51_DeadlinesExtends.j0 k l1 a3 a4 a5 (decide (a4 > 1099511627776)) a0_0 a0_1 a0_2 l0_3 a2_0 a2_1 a2_2)) else (assessorlaw51_DeadlinesExtends.j0 k l1 a3 a4 a5 true a0_0 a0_1 a0_2 l0_3 a2_0 a2_1 a2_2)))) = some r := by rw [if_pos rfl] at H; exact H
    clear H
    have H := H1
    clear H1
    by_cases c15 : (a2_0.size : Int) > 40
    ·rw [if_pos c15] at H
     have c15b0 : decide (40 < (a2_0.size : Int)) = true := decide_eq_true c15
     have c15b1 : decide (40 < a2_0.size) = true := decide_eq_true (by omega)
     clear c15
     (first | rw [c15b0] | (simp only [i64_w, i32_w]; rw [c15b0]) | skip)
     have H' := Aside0.mk H
     clear H
     have hnb16 := NB299_300.out
     have hnc16 := NB300_299.out
     have hcz17_0 : w12.cell? ⟨gb299, 0, none⟩ = some (.int .i64 a0_0) := (blk_cell BK299.out 0).trans rfl
     have hcz17_1 : w12.cell? ⟨gb299, 1, none⟩ = some (.int .i64 a0_1) := (blk_cell BK299.out 1).trans rfl
     have hcz17_2 : w12.cell? ⟨gb299, 2, none⟩ = some (.bool a0_2) := (blk_cell BK299.out 2).trans rfl
     have hcz17_3 : w12.cell? ⟨gb299, 3, none⟩ = some (.slice A0_3 l0_3.length c0_3) := (blk_cell BK299.out 3).trans rfl
     have hfz17_0 := blk_frozen BK299.out 0
     have hfz17_1 := blk_frozen BK299.out 1
     have hfz17_2 := blk_frozen BK299.out 2
     have hfz17_3 := blk_frozen BK299.out 3
     go_wp2_with (first | ((with_reducible refine gate_callee (f := 15) rfl ?_); refine goesL_ (some 20) rfl rfl Try.func15 (by kernel_rfl) rfl #[.agg #[.int .i64 a0_0, .int .i64 a0_1, .bool a0_2, .slice A0_3 l0_3.length c0_3], .slice A1 l1.length c1, .string a3] rfl (by (try simp only [List.map_toArray, List.map_cons, List.map_nil]); first | done | rfl | (simp only [List.length_drop, List.length_take]; rfl)) ?_; (with_reducible refine (assessorlaw51_few.calls k a0_0 a0_1 a0_2 _ _ l0_3 _ _ l1 a3 true _ ?side1 ?side2 ?side3 ?side4 A13.out).mono ?_); (case side1 => repeat (first | exact (Kd.C_below HR0_3.out HB.out) | (with_reducible refine Kd.C_alloc ?_ _) | (with_reducible refine Kd.C_drewN ?_ _) | (with_reducible refine Kd.C_drew ?_))); (case side2 => exact HC0_3.out); (case side3 => repeat (first | exact (Kd.C_below HR1.out HB.out) | (with_reducible refine Kd.C_alloc ?_ _) | (with_reducible refine Kd.C_drewN ?_ _) | (with_reducible refine Kd.C_drew ?_))); (case side4 => exact HC1.out); rintro e w18 ⟨rfl, hb⟩; refine ⟨_, rfl, ?_⟩; have n0_ := Aside0.mk (blk_below (g := gb299) (o := .cells #[.int .i64 a0_0, .int .i64 a0_1, .bool a0_2, .slice A0_3 l0_3.length c0_3] 24 (0, 0)) (by (with_reducible repeat (first | refine blk_drewN ?_ _ | refine blk_drew ?_ | refine blk_alloc ?_ _)); exact BK299.out) hb); have n1_ := Aside0.mk (blk_below (g := gb300) (o := .cells #[.string a2_0, .int .i64 a2_1, .int .i64 a2_2] 49 (0, 0)) (by (with_reducible repeat (first | refine blk_drewN ?_ _ | refine blk_drew ?_ | refine blk_alloc ?_ _)); exact BK300.out) hb); have n2_ := Aside0.mk (below_step (by repeat (first | (with_reducible first | exact HB.out | apply below_alloc | apply pw_below_drewN | apply below_drew1 | refine below_set ?_ GE299.out | refine below_set ?_ GE300.out) | exact HB.out)) hb); clear BK299; clear BK300; clear HB; have BK299 := n0_; have BK300 := n1_; have HB := n2_; clear n0_ n1_ n2_; (try clear hb); (try clear hb2); (try clear hk); (try clear hi); have hcz19_0 : w18.cell? ⟨gb300, 0, none⟩ = some (.string a2_0) := (blk_cell BK300.out 0).trans rfl; have hcz19_1 : w18.cell? ⟨gb300, 1, none⟩ = some (.int .i64 a2_1) := (blk_cell BK300.out 1).trans rfl; have hcz19_2 : w18.cell? ⟨gb300, 2, none⟩ = some (.int .i64 a2_2) := (blk_cell BK300.out 2).trans rfl; have hfz19_0 := blk_frozen BK300.out 0; have hfz19_1 := blk_frozen BK300.out 1; have hfz19_2 := blk_frozen BK300.out 2))
     go_meet
     case rel => exact ⟨_, (true), (by first | rfl | (simp; done) | (simp [*]; done)), H', ⟨by first | omega | exact Nat.le_refl _⟩, ⟨by (with_reducible repeat (first | refine blk_drewN ?_ _ | refine blk_drew ?_ | refine blk_alloc ?_ _)); exact BK299.out⟩, ⟨by (with_reducible repeat (first | refine blk_drewN ?_ _ | refine blk_drew ?_ | refine blk_alloc ?_ _)); exact BK300.out⟩, ⟨by repeat (first | (with_reducible first | exact HB.out | apply below_alloc | apply pw_below_drewN | apply below_drew1 | refine below_set ?_ GE299.out | refine below_set ?_ GE300.out) | exact HB.out)⟩⟩
    ·rw [if_neg c15] at H
     have c15b0 : decide (40 < (a2_0.size : Int)) = false := decide_eq_false c15
     have c15b1 : decide (40 < a2_0.size) = false := decide_eq_false (by omega)
     clear c15
     (first | rw [c15b0] | (simp only [i64_w, i32_w]; rw [c15b0]) | skip)
     replace H := Option.bind_eq_some_iff.mp H
     obtain ⟨t303, A200, H⟩ := H
     replace H : (if t303 = true then (if a4 < 0 then (assessorlaw51_DeadlinesExtends.j0 k l1 a3 a4 a5 true a0_0 a0_1 a0_2 l0_3 a2_0 a2_1 a2_2) else (assessorlaw51_DeadlinesExtends.j0 k l1 a3 a4 a5 (decide (a4 > 1099511627776)) a0_0 a0_1 a0_2 l0_3 a2_0 a2_1 a2_2)) else (assessorlaw51_DeadlinesExtends.j0 k l1 a3 a4 a5 true a0_0 a0_1 a0_2 l0_3 a2_0 a2_1 a2_2)) = some r := H
     have A20 := Aside0.mk A200
     clear A200
     by_cases c21 : t303 = true
     ·subst c21
      have H1 : (if a4 < 0 then (assessorlaw51_DeadlinesExtends.j0 k l1 a3 a4 a5 true a0_0 a0_1 a0_2 l0_3 a2_0 a2_1 a2_2) else (assessorlaw51_DeadlinesExtends.j0 k l1 a3 a4 a5 (decide (a4 > 1099511627776)) a0_0 a0_1 a0_2 l0_3 a2_0 a2_1 a2_2)) = some r := by rw [if_pos rfl] at H; exact H
      clear H
      have H := H1
      clear H1
      by_cases c22 : a4 < 0
      ·rw [if_pos c22] at H
       have c22b0 : decide (a4 < 0) = true := decide_eq_true c22
       clear c22
       have H' := Aside0.mk H
       clear H
       have hnb23 := NB299_300.out
       have hnc23 := NB300_299.out
       have hcz24_0 : w12.cell? ⟨gb299, 0, none⟩ = some (.int .i64 a0_0) := (blk_cell BK299.out 0).trans rfl
       have hcz24_1 : w12.cell? ⟨gb299, 1, none⟩ = some (.int .i64 a0_1) := (blk_cell BK299.out 1).trans rfl
       have hcz24_2 : w12.cell? ⟨gb299, 2, none⟩ = some (.bool a0_2) := (blk_cell BK299.out 2).trans rfl
       have hcz24_3 : w12.cell? ⟨gb299, 3, none⟩ = some (.slice A0_3 l0_3.length c0_3) := (blk_cell BK299.out 3).trans rfl
       have hfz24_0 := blk_frozen BK299.out 0
       have hfz24_1 := blk_frozen BK299.out 1
       have hfz24_2 := blk_frozen BK299.out 2
       have hfz24_3 := blk_frozen BK299.out 3
       go_wp2_with (first | ((with_reducible refine gate_callee (f := 15) rfl ?_); refine goesL_ (some 20) rfl rfl Try.func15 (by kernel_rfl) rfl #[.agg #[.int .i64 a0_0, .int .i64 a0_1, .bool a0_2, .slice A0_3 l0_3.length c0_3], .slice A1 l1.length c1, .string a3] rfl (by (try simp only [List.map_toArray, List.map_cons, List.map_nil]); first | done | rfl | (simp only [List.length_drop, List.length_take]; rfl)) ?_; (with_reducible refine (assessorlaw51_few.calls k a0_0 a0_1 a0_2 _ _ l0_3 _ _ l1 a3 true _ ?side1 ?side2 ?side3 ?side4 A13.out).mono ?_); (case side1 => repeat (first | exact (Kd.C_below HR0_3.out HB.out) | (with_reducible refine Kd.C_alloc ?_ _) | (with_reducible refine Kd.C_drewN ?_ _) | (with_reducible refine Kd.C_drew ?_))); (case side2 => exact HC0_3.out); (case side3 => repeat (first | exact (Kd.C_below HR1.out HB.out) | (with_reducible refine Kd.C_alloc ?_ _) | (with_reducible refine Kd.C_drewN ?_ _) | (with_reducible refine Kd.C_drew ?_))); (case side4 => exact HC1.out); rintro e w25 ⟨rfl, hb⟩; refine ⟨_, rfl, ?_⟩; have n0_ := Aside0.mk (blk_below (g := gb299) (o := .cells #[.int .i64 a0_0, .int .i64 a0_1, .bool a0_2, .slice A0_3 l0_3.length c0_3] 24 (0, 0)) (by (with_reducible repeat (first | refine blk_drewN ?_ _ | refine blk_drew ?_ | refine blk_alloc ?_ _)); exact BK299.out) hb); have n1_ := Aside0.mk (blk_below (g := gb300) (o := .cells #[.string a2_0, .int .i64 a2_1, .int .i64 a2_2] 49 (0, 0)) (by (with_reducible repeat (first | refine blk_drewN ?_ _ | refine blk_drew ?_ | refine blk_alloc ?_ _)); exact BK300.out) hb); have n2_ := Aside0.mk (below_step (by repeat (first | (with_reducible first | exact HB.out | apply below_alloc | apply pw_below_drewN | apply below_drew1 | refine below_set ?_ GE299.out | refine below_set ?_ GE300.out) | exact HB.out)) hb); clear BK299; clear BK300; clear HB; have BK299 := n0_; have BK300 := n1_; have HB := n2_; clear n0_ n1_ n2_; (try clear hb); (try clear hb2); (try clear hk); (try clear hi); have hcz26_0 : w25.cell? ⟨gb300, 0, none⟩ = some (.string a2_0) := (blk_cell BK300.out 0).trans rfl; have hcz26_1 : w25.cell? ⟨gb300, 1, none⟩ = some (.int .i64 a2_1) := (blk_cell BK300.out 1).trans rfl; have hcz26_2 : w25.cell? ⟨gb300, 2, none⟩ = some (.int .i64 a2_2) := (blk_cell BK300.out 2).trans rfl; have hfz26_0 := blk_frozen BK300.out 0; have hfz26_1 := blk_frozen BK300.out 1; have hfz26_2 := blk_frozen BK300.out 2; have hcz27_0 : w25.cell? ⟨gb299, 0, none⟩ = some (.int .i64 a0_0) := (blk_cell BK299.out 0).trans rfl; have hcz27_1 : w25.cell? ⟨gb299, 1, none⟩ = some (.int .i64 a0_1) := (blk_cell BK299.out 1).trans rfl; have hcz27_2 : w25.cell? ⟨gb299, 2, none⟩ = some (.bool a0_2) := (blk_cell BK299.out 2).trans rfl; have hcz27_3 : w25.cell? ⟨gb299, 3, none⟩ = some (.slice A0_3 l0_3.length c0_3) := (blk_cell BK299.out 3).trans rfl; have hfz27_0 := blk_frozen BK299.out 0; have hfz27_1 := blk_frozen BK299.out 1; have hfz27_2 := blk_frozen BK299.out 2; have hfz27_3 := blk_frozen BK299.out 3) | (go_at_call 12; (with_reducible refine (deadlines_Valid.calls k a0_0 a0_1 a0_2 _ _ l0_3 true _ ?side1 ?side2 A20.out).mono ?_); (case side1 => repeat (first | exact (Kd.C_below HR0_3.out HB.out) | (with_reducible refine Kd.C_alloc ?_ _) | (with_reducible refine Kd.C_drewN ?_ _) | (with_reducible refine Kd.C_drew ?_))); (case side2 => exact HC0_3.out); rintro e w28 ⟨rfl, hb⟩; have n0_ := Aside0.mk (blk_below (g := gb299) (o := .cells #[.int .i64 a0_0, .int .i64 a0_1, .bool a0_2, .slice A0_3 l0_3.length c0_3] 24 (0, 0)) (by (with_reducible repeat (first | refine blk_drewN ?_ _ | refine blk_drew ?_ | refine blk_alloc ?_ _)); exact BK299.out) hb); have n1_ := Aside0.mk (blk_below (g := gb300) (o := .cells #[.string a2_0, .int .i64 a2_1, .int .i64 a2_2] 49 (0, 0)) (by (with_reducible repeat (first | refine blk_drewN ?_ _ | refine blk_drew ?_ | refine blk_alloc ?_ _)); exact BK300.out) hb); have n2_ := Aside0.mk (below_step (by repeat (first | (with_reducible first | exact HB.out | apply below_alloc | apply pw_below_drewN | apply below_drew1 | refine below_set ?_ GE299.out | refine below_set ?_ GE300.out) | exact HB.out)) hb); clear BK299; clear BK300; clear HB; have BK299 := n0_; have BK300 := n1_; have HB := n2_; clear n0_ n1_ n2_; (try clear hb); (try clear hb2); (try clear hk); (try clear hi)))
       go_meet
       case rel => exact ⟨_, (true), (by first | rfl | (simp; done) | (simp [*]; done)), H', ⟨by first | omega | exact Nat.le_refl _⟩, ⟨by (with_reducible repeat (first | refine blk_drewN ?_ _ | refine blk_drew ?_ | refine blk_alloc ?_ _)); exact BK299.out⟩, ⟨by (with_reducible repeat (first | refine blk_drewN ?_ _ | refine blk_drew ?_ | refine blk_alloc ?_ _)); exact BK300.out⟩, ⟨by repeat (first | (with_reducible first | exact HB.out | apply below_alloc | apply pw_below_drewN | apply below_drew1 | refine below_set ?_ GE299.out | refine below_set ?_ GE300.out) | exact HB.out)⟩⟩
      ·rw [if_neg c22] at H
       have c22b0 : decide (a4 < 0) = false := decide_eq_false c22
       clear c22
       have H' := Aside0.mk H
       clear H
       have hnb29 := NB299_300.out
       have hnc29 := NB300_299.out
       have hcz30_0 : w12.cell? ⟨gb299, 0, none⟩ = some (.int .i64 a0_0) := (blk_cell BK299.out 0).trans rfl
       have hcz30_1 : w12.cell? ⟨gb299, 1, none⟩ = some (.int .i64 a0_1) := (blk_cell BK299.out 1).trans rfl
       have hcz30_2 : w12.cell? ⟨gb299, 2, none⟩ = some (.bool a0_2) := (blk_cell BK299.out 2).trans rfl
       have hcz30_3 : w12.cell? ⟨gb299, 3, none⟩ = some (.slice A0_3 l0_3.length c0_3) := (blk_cell BK299.out 3).trans rfl
       have hfz30_0 := blk_frozen BK299.out 0
       have hfz30_1 := blk_frozen BK299.out 1
       have hfz30_2 := blk_frozen BK299.out 2
       have hfz30_3 := blk_frozen BK299.out 3
       go_wp2_with (first | ((with_reducible refine gate_callee (f := 15) rfl ?_); refine goesL_ (some 20) rfl rfl Try.func15 (by kernel_rfl) rfl #[.agg #[.int .i64 a0_0, .int .i64 a0_1, .bool a0_2, .slice A0_3 l0_3.length c0_3], .slice A1 l1.length c1, .string a3] rfl (by (try simp only [List.map_toArray, List.map_cons, List.map_nil]); first | done | rfl | (simp only [List.length_drop, List.length_take]; rfl)) ?_; (with_reducible refine (assessorlaw51_few.calls k a0_0 a0_1 a0_2 _ _ l0_3 _ _ l1 a3 true _ ?side1 ?side2 ?side3 ?side4 A13.out).mono ?_); (case side1 => repeat (first | exact (Kd.C_below HR0_3.out HB.out) | (with_reducible refine Kd.C_alloc ?_ _) | (with_reducible refine Kd.C_drewN ?_ _) | (with_reducible refine Kd.C_drew ?_))); (case side2 => exact HC0_3.out); (case side3 => repeat (first | exact (Kd.C_below HR1.out HB.out) | (with_reducible refine Kd.C_alloc ?_ _) | (with_reducible refine Kd.C_drewN ?_ _) | (with_reducible refine Kd.C_drew ?_))); (case side4 => exact HC1.out); rintro e w31 ⟨rfl, hb⟩; refine ⟨_, rfl, ?_⟩; have n0_ := Aside0.mk (blk_below (g := gb299) (o := .cells #[.int .i64 a0_0, .int .i64 a0_1, .bool a0_2, .slice A0_3 l0_3.length c0_3] 24 (0, 0)) (by (with_reducible repeat (first | refine blk_drewN ?_ _ | refine blk_drew ?_ | refine blk_alloc ?_ _)); exact BK299.out) hb); have n1_ := Aside0.mk (blk_below (g := gb300) (o := .cells #[.string a2_0, .int .i64 a2_1, .int .i64 a2_2] 49 (0, 0)) (by (with_reducible repeat (first | refine blk_drewN ?_ _ | refine blk_drew ?_ | refine blk_alloc ?_ _)); exact BK300.out) hb); have n2_ := Aside0.mk (below_step (by repeat (first | (with_reducible first | exact HB.out | apply below_alloc | apply pw_below_drewN | apply below_drew1 | refine below_set ?_ GE299.out | refine below_set ?_ GE300.out) | exact HB.out)) hb); clear BK299; clear BK300; clear HB; have BK299 := n0_; have BK300 := n1_; have HB := n2_; clear n0_ n1_ n2_; (try clear hb); (try clear hb2); (try clear hk); (try clear hi); have hcz32_0 : w31.cell? ⟨gb300, 0, none⟩ = some (.string a2_0) := (blk_cell BK300.out 0).trans rfl; have hcz32_1 : w31.cell? ⟨gb300, 1, none⟩ = some (.int .i64 a2_1) := (blk_cell BK300.out 1).trans rfl; have hcz32_2 : w31.cell? ⟨gb300, 2, none⟩ = some (.int .i64 a2_2) := (blk_cell BK300.out 2).trans rfl; have hfz32_0 := blk_frozen BK300.out 0; have hfz32_1 := blk_frozen BK300.out 1; have hfz32_2 := blk_frozen BK300.out 2; have hcz33_0 : w31.cell? ⟨gb299, 0, none⟩ = some (.int .i64 a0_0) := (blk_cell BK299.out 0).trans rfl; have hcz33_1 : w31.cell? ⟨gb299, 1, none⟩ = some (.int .i64 a0_1) := (blk_cell BK299.out 1).trans rfl; have hcz33_2 : w31.cell? ⟨gb299, 2, none⟩ = some (.bool a0_2) := (blk_cell BK299.out 2).trans rfl; have hcz33_3 : w31.cell? ⟨gb299, 3, none⟩ = some (.slice A0_3 l0_3.length c0_3) := (blk_cell BK299.out 3).trans rfl; have hfz33_0 := blk_frozen BK299.out 0; have hfz33_1 := blk_frozen BK299.out 1; have hfz33_2 := blk_frozen BK299.out 2; have hfz33_3 := blk_frozen BK299.out 3) | (go_at_call 12; (with_reducible refine (deadlines_Valid.calls k a0_0 a0_1 a0_2 _ _ l0_3 true _ ?side1 ?side2 A20.out).mono ?_); (case side1 => repeat (first | exact (Kd.C_below HR0_3.out HB.out) | (with_reducible refine Kd.C_alloc ?_ _) | (with_reducible refine Kd.C_drewN ?_ _) | (with_reducible refine Kd.C_drew ?_))); (case side2 => exact HC0_3.out); rintro e w34 ⟨rfl, hb⟩; have n0_ := Aside0.mk (blk_below (g := gb299) (o := .cells #[.int .i64 a0_0, .int .i64 a0_1, .bool a0_2, .slice A0_3 l0_3.length c0_3] 24 (0, 0)) (by (with_reducible repeat (first | refine blk_drewN ?_ _ | refine blk_drew ?_ | refine blk_alloc ?_ _)); exact BK299.out) hb); have n1_ := Aside0.mk (blk_below (g := gb300) (o := .cells #[.string a2_0, .int .i64 a2_1, .int .i64 a2_2] 49 (0, 0)) (by (with_reducible repeat (first | refine blk_drewN ?_ _ | refine blk_drew ?_ | refine blk_alloc ?_ _)); exact BK300.out) hb); have n2_ := Aside0.mk (below_step (by repeat (first | (with_reducible first | exact HB.out | apply below_alloc | apply pw_below_drewN | apply below_drew1 | refine below_set ?_ GE299.out | refine below_set ?_ GE300.out) | exact HB.out)) hb); clear BK299; clear BK300; clear HB; have BK299 := n0_; have BK300 := n1_; have HB := n2_; clear n0_ n1_ n2_; (try clear hb); (try clear hb2); (try clear hk); (try clear hi)))
       go_meet
       case rel => exact ⟨_, (decide (a4 > 1099511627776)), (by first | rfl | (simp; done) | (simp [*]; done)), H', ⟨by first | omega | exact Nat.le_refl _⟩, ⟨by (with_reducible repeat (first | refine blk_drewN ?_ _ | refine blk_drew ?_ | refine blk_alloc ?_ _)); exact BK299.out⟩, ⟨by (with_reducible repeat (first | refine blk_drewN ?_ _ | refine blk_drew ?_ | refine blk_alloc ?_ _)); exact BK300.out⟩, ⟨by repeat (first | (with_reducible first | exact HB.out | apply below_alloc | apply pw_below_drewN | apply below_drew1 | refine below_set ?_ GE299.out | refine below_set ?_ GE300.out) | exact HB.out)⟩⟩
     ·replace c21 := Bool.eq_false_iff.mpr c21
      subst c21
      have H1 : (assessorlaw51_DeadlinesExtends.j0 k l1 a3 a4 a5 true a0_0 a0_1 a0_2 l0_3 a2_0 a2_1 a2_2) = some r := by rw [if_neg (show ¬ (false = true) by decide)] at H; exact H
      clear H
      have H := H1
      clear H1
      have H' := Aside0.mk H
      clear H
      have hnb35 := NB299_300.out
      have hnc35 := NB300_299.out
      have hcz36_0 : w12.cell? ⟨gb299, 0, none⟩ = some (.int .i64 a0_0) := (blk_cell BK299.out 0).trans rfl
      have hcz36_1 : w12.cell? ⟨gb299, 1, none⟩ = some (.int .i64 a0_1) := (blk_cell BK299.out 1).trans rfl
      have hcz36_2 : w12.cell? ⟨gb299, 2, none⟩ = some (.bool a0_2) := (blk_cell BK299.out 2).trans rfl
      have hcz36_3 : w12.cell? ⟨gb299, 3, none⟩ = some (.slice A0_3 l0_3.length c0_3) := (blk_cell BK299.out 3).trans rfl
      have hfz36_0 := blk_frozen BK299.out 0
      have hfz36_1 := blk_frozen BK299.out 1
      have hfz36_2 := blk_frozen BK299.out 2
      have hfz36_3 := blk_frozen BK299.out 3
      go_wp2_with (first | ((with_reducible refine gate_callee (f := 15) rfl ?_); refine goesL_ (some 20) rfl rfl Try.func15 (by kernel_rfl) rfl #[.agg #[.int .i64 a0_0, .int .i64 a0_1, .bool a0_2, .slice A0_3 l0_3.length c0_3], .slice A1 l1.length c1, .string a3] rfl (by (try simp only [List.map_toArray, List.map_cons, List.map_nil]); first | done | rfl | (simp only [List.length_drop, List.length_take]; rfl)) ?_; (with_reducible refine (assessorlaw51_few.calls k a0_0 a0_1 a0_2 _ _ l0_3 _ _ l1 a3 true _ ?side1 ?side2 ?side3 ?side4 A13.out).mono ?_); (case side1 => repeat (first | exact (Kd.C_below HR0_3.out HB.out) | (with_reducible refine Kd.C_alloc ?_ _) | (with_reducible refine Kd.C_drewN ?_ _) | (with_reducible refine Kd.C_drew ?_))); (case side2 => exact HC0_3.out); (case side3 => repeat (first | exact (Kd.C_below HR1.out HB.out) | (with_reducible refine Kd.C_alloc ?_ _) | (with_reducible refine Kd.C_drewN ?_ _) | (with_reducible refine Kd.C_drew ?_))); (case side4 => exact HC1.out); rintro e w37 ⟨rfl, hb⟩; refine ⟨_, rfl, ?_⟩; have n0_ := Aside0.mk (blk_below (g := gb299) (o := .cells #[.int .i64 a0_0, .int .i64 a0_1, .bool a0_2, .slice A0_3 l0_3.length c0_3] 24 (0, 0)) (by (with_reducible repeat (first | refine blk_drewN ?_ _ | refine blk_drew ?_ | refine blk_alloc ?_ _)); exact BK299.out) hb); have n1_ := Aside0.mk (blk_below (g := gb300) (o := .cells #[.string a2_0, .int .i64 a2_1, .int .i64 a2_2] 49 (0, 0)) (by (with_reducible repeat (first | refine blk_drewN ?_ _ | refine blk_drew ?_ | refine blk_alloc ?_ _)); exact BK300.out) hb); have n2_ := Aside0.mk (below_step (by repeat (first | (with_reducible first | exact HB.out | apply below_alloc | apply pw_below_drewN | apply below_drew1 | refine below_set ?_ GE299.out | refine below_set ?_ GE300.out) | exact HB.out)) hb); clear BK299; clear BK300; clear HB; have BK299 := n0_; have BK300 := n1_; have HB := n2_; clear n0_ n1_ n2_; (try clear hb); (try clear hb2); (try clear hk); (try clear hi); have hcz38_0 : w37.cell? ⟨gb300, 0, none⟩ = some (.string a2_0) := (blk_cell BK300.out 0).trans rfl; have hcz38_1 : w37.cell? ⟨gb300, 1, none⟩ = some (.int .i64 a2_1) := (blk_cell BK300.out 1).trans rfl; have hcz38_2 : w37.cell? ⟨gb300, 2, none⟩ = some (.int .i64 a2_2) := (blk_cell BK300.out 2).trans rfl; have hfz38_0 := blk_frozen BK300.out 0; have hfz38_1 := blk_frozen BK300.out 1; have hfz38_2 := blk_frozen BK300.out 2; have hcz39_0 : w37.cell? ⟨gb299, 0, none⟩ = some (.int .i64 a0_0) := (blk_cell BK299.out 0).trans rfl; have hcz39_1 : w37.cell? ⟨gb299, 1, none⟩ = some (.int .i64 a0_1) := (blk_cell BK299.out 1).trans rfl; have hcz39_2 : w37.cell? ⟨gb299, 2, none⟩ = some (.bool a0_2) := (blk_cell BK299.out 2).trans rfl; have hcz39_3 : w37.cell? ⟨gb299, 3, none⟩ = some (.slice A0_3 l0_3.length c0_3) := (blk_cell BK299.out 3).trans rfl; have hfz39_0 := blk_frozen BK299.out 0; have hfz39_1 := blk_frozen BK299.out 1; have hfz39_2 := blk_frozen BK299.out 2; have hfz39_3 := blk_frozen BK299.out 3) | (go_at_call 12; (with_reducible refine (deadlines_Valid.calls k a0_0 a0_1 a0_2 _ _ l0_3 false _ ?side1 ?side2 A20.out).mono ?_); (case side1 => repeat (first | exact (Kd.C_below HR0_3.out HB.out) | (with_reducible refine Kd.C_alloc ?_ _) | (with_reducible refine Kd.C_drewN ?_ _) | (with_reducible refine Kd.C_drew ?_))); (case side2 => exact HC0_3.out); rintro e w40 ⟨rfl, hb⟩; have n0_ := Aside0.mk (blk_below (g := gb299) (o := .cells #[.int .i64 a0_0, .int .i64 a0_1, .bool a0_2, .slice A0_3 l0_3.length c0_3] 24 (0, 0)) (by (with_reducible repeat (first | refine blk_drewN ?_ _ | refine blk_drew ?_ | refine blk_alloc ?_ _)); exact BK299.out) hb); have n1_ := Aside0.mk (blk_below (g := gb300) (o := .cells #[.string a2_0, .int .i64 a2_1, .int .i64 a2_2] 49 (0, 0)) (by (with_reducible repeat (first | refine blk_drewN ?_ _ | refine blk_drew ?_ | refine blk_alloc ?_ _)); exact BK300.out) hb); have n2_ := Aside0.mk (below_step (by repeat (first | (with_reducible first | exact HB.out | apply below_alloc | apply pw_below_drewN | apply below_drew1 | refine below_set ?_ GE299.out | refine below_set ?_ GE300.out) | exact HB.out)) hb); clear BK299; clear BK300; clear HB; have BK299 := n0_; have BK300 := n1_; have HB := n2_; clear n0_ n1_ n2_; (try clear hb); (try clear hb2); (try clear hk); (try clear hi)))
      go_meet
      case rel => exact ⟨_, (true), (by first | rfl | (simp; done) | (simp [*]; done)), H', ⟨by first | omega | exact Nat.le_refl _⟩, ⟨by (with_reducible repeat (first | refine blk_drewN ?_ _ | refine blk_drew ?_ | refine blk_alloc ?_ _)); exact BK299.out⟩, ⟨by (with_reducible repeat (first | refine blk_drewN ?_ _ | refine blk_drew ?_ | refine blk_alloc ?_ _)); exact BK300.out⟩, ⟨by repeat (first | (with_reducible first | exact HB.out | apply below_alloc | apply pw_below_drewN | apply below_drew1 | refine below_set ?_ GE299.out | refine below_set ?_ GE300.out) | exact HB.out)⟩⟩
   ·replace c14 := Bool.eq_false_iff.mpr c14
    subst c14
    have H1 : (assessorlaw51_DeadlinesExtends.j0 k l1 a3 a4 a5 true a0_0 a0_1 a0_2 l0_3 a2_0 a2_1 a2_2) = some r := by rw [if_neg (show ¬ (false = true) by decide)] at H; exact H
    clear H
    have H := H1
    clear H1
    have H' := Aside0.mk H
    clear H
    have hnb41 := NB299_300.out
    have hnc41 := NB300_299.out
    have hcz42_0 : w12.cell? ⟨gb299, 0, none⟩ = some (.int .i64 a0_0) := (blk_cell BK299.out 0).trans rfl
    have hcz42_1 : w12.cell? ⟨gb299, 1, none⟩ = some (.int .i64 a0_1) := (blk_cell BK299.out 1).trans rfl
    have hcz42_2 : w12.cell? ⟨gb299, 2, none⟩ = some (.bool a0_2) := (blk_cell BK299.out 2).trans rfl
    have hcz42_3 : w12.cell? ⟨gb299, 3, none⟩ = some (.slice A0_3 l0_3.length c0_3) := (blk_cell BK299.out 3).trans rfl
    have hfz42_0 := blk_frozen BK299.out 0
    have hfz42_1 := blk_frozen BK299.out 1
    have hfz42_2 := blk_frozen BK299.out 2
    have hfz42_3 := blk_frozen BK299.out 3
    go_wp2_with (first | ((with_reducible refine gate_callee (f := 15) rfl ?_); refine goesL_ (some 20) rfl rfl Try.func15 (by kernel_rfl) rfl #[.agg #[.int .i64 a0_0, .int .i64 a0_1, .bool a0_2, .slice A0_3 l0_3.length c0_3], .slice A1 l1.length c1, .string a3] rfl (by (try simp only [List.map_toArray, List.map_cons, List.map_nil]); first | done | rfl | (simp only [List.length_drop, List.length_take]; rfl)) ?_; (with_reducible refine (assessorlaw51_few.calls k a0_0 a0_1 a0_2 _ _ l0_3 _ _ l1 a3 false _ ?side1 ?side2 ?side3 ?side4 A13.out).mono ?_); (case side1 => repeat (first | exact (Kd.C_below HR0_3.out HB.out) | (with_reducible refine Kd.C_alloc ?_ _) | (with_reducible refine Kd.C_drewN ?_ _) | (with_reducible refine Kd.C_drew ?_))); (case side2 => exact HC0_3.out); (case side3 => repeat (first | exact (Kd.C_below HR1.out HB.out) | (with_reducible refine Kd.C_alloc ?_ _) | (with_reducible refine Kd.C_drewN ?_ _) | (with_reducible refine Kd.C_drew ?_))); (case side4 => exact HC1.out); rintro e w43 ⟨rfl, hb⟩; refine ⟨_, rfl, ?_⟩; have n0_ := Aside0.mk (blk_below (g := gb299) (o := .cells #[.int .i64 a0_0, .int .i64 a0_1, .bool a0_2, .slice A0_3 l0_3.length c0_3] 24 (0, 0)) (by (with_reducible repeat (first | refine blk_drewN ?_ _ | refine blk_drew ?_ | refine blk_alloc ?_ _)); exact BK299.out) hb); have n1_ := Aside0.mk (blk_below (g := gb300) (o := .cells #[.string a2_0, .int .i64 a2_1, .int .i64 a2_2] 49 (0, 0)) (by (with_reducible repeat (first | refine blk_drewN ?_ _ | refine blk_drew ?_ | refine blk_alloc ?_ _)); exact BK300.out) hb); have n2_ := Aside0.mk (below_step (by repeat (first | (with_reducible first | exact HB.out | apply below_alloc | apply pw_below_drewN | apply below_drew1 | refine below_set ?_ GE299.out | refine below_set ?_ GE300.out) | exact HB.out)) hb); clear BK299; clear BK300; clear HB; have BK299 := n0_; have BK300 := n1_; have HB := n2_; clear n0_ n1_ n2_; (try clear hb); (try clear hb2); (try clear hk); (try clear hi)))
    go_meet
    case rel => exact ⟨_, (true), (by first | rfl | (simp; done) | (simp [*]; done)), H', ⟨by first | omega | exact Nat.le_refl _⟩, ⟨by (with_reducible repeat (first | refine blk_drewN ?_ _ | refine blk_drew ?_ | refine blk_alloc ?_ _)); exact BK299.out⟩, ⟨by (with_reducible repeat (first | refine blk_drewN ?_ _ | refine blk_drew ?_ | refine blk_alloc ?_ _)); exact BK300.out⟩, ⟨by repeat (first | (with_reducible first | exact HB.out | apply below_alloc | apply pw_below_drewN | apply below_drew1 | refine below_set ?_ GE299.out | refine below_set ?_ GE300.out) | exact HB.out)⟩⟩
  case rest =>
   clear HC9
   try clear c1
   try clear c2
   try clear p2
   try clear c3
   try clear c4
   try clear c8
   try clear c10
   try clear c14
   try clear c15
   try clear c15b0
   try clear c15b1
   try clear c16
   try clear c21
   try clear c22
   try clear c22b0
   try clear c23
   try clear c29
   try clear c35
   try clear c41
   try clear hcz17_0
   try clear hcz17_1
   try clear hcz17_2
   try clear hcz17_3
   try clear hcz19_0
   try clear hcz19_1
   try clear hcz19_2
   try clear hcz24_0
   try clear hcz24_1
   try clear hcz24_2
   try clear hcz24_3
   try clear hcz26_0
   try clear hcz26_1
   try clear hcz26_2
   try clear hcz27_0
   try clear hcz27_1
   try clear hcz27_2
   try clear hcz27_3
   try clear hcz30_0
   try clear hcz30_1
   try clear hcz30_2
   try clear hcz30_3
   try clear hcz32_0
   try clear hcz32_1
   try clear hcz32_2
   try clear hcz33_0
   try clear hcz33_1
   try clear hcz33_2
   try clear hcz33_3
   try clear hcz36_0
   try clear hcz36_1
   try clear hcz36_2
   try clear hcz36_3
   try clear hcz38_0
   try clear hcz38_1
   try clear hcz38_2
   try clear hcz39_0
   try clear hcz39_1
   try clear hcz39_2
   try clear hcz39_3
   try clear hcz42_0
   try clear hcz42_1
   try clear hcz42_2
   try clear hcz42_3
   try clear hfz17_0
   try clear hfz17_1
   try clear hfz17_2
   try clear hfz17_3
   try clear hfz19_0
   try clear hfz19_1
   try clear hfz19_2
   try clear hfz24_0
   try clear hfz24_1
   try clear hfz24_2
   try clear hfz24_3
   try clear hfz26_0
   try clear hfz26_1
   try clear hfz26_2
   try clear hfz27_0
   try clear hfz27_1
   try clear hfz27_2
   try clear hfz27_3
   try clear hfz30_0
   try clear hfz30_1
   try clear hfz30_2
   try clear hfz30_3
   try clear hfz32_0
   try clear hfz32_1
   try clear hfz32_2
   try clear hfz33_0
   try clear hfz33_1
   try clear hfz33_2
   try clear hfz33_3
   try clear hfz36_0
   try clear hfz36_1
   try clear hfz36_2
   try clear hfz36_3
   try clear hfz38_0
   try clear hfz38_1
   try clear hfz38_2
   try clear hfz39_0
   try clear hfz39_1
   try clear hfz39_2
   try clear hfz39_3
   try clear hfz42_0
   try clear hfz42_1
   try clear hfz42_2
   try clear hfz42_3
   obtain ⟨kq, x40_8, rfl, HA, HJ8, BK299, BK300, HB⟩ := hcut
   cases kq with
   | zero => exact absurd HA.out (by simp [assessorlaw51_DeadlinesExtends.j0])
   | succ kj8 =>
    have H := HA.out
    clear HA
    simp only [assessorlaw51_DeadlinesExtends.j0] at H
    by_cases c44 : x40_8 = true
    ·subst c44
     have H1 : (some true) = some r := by rw [if_pos rfl] at H; exact H
     clear H
     have H := H1
     clear H1
     obtain rfl := Option.some.inj H
     go_wp2
     go_ret
     exact ⟨by first | rfl | (simp [errW_none, errW_some] <;> rfl) | (simp [*, errW_none, errW_some] <;> rfl), by repeat (first | (with_reducible first | exact HB.out | apply below_alloc | apply pw_below_drewN | apply below_drew1 | refine below_set ?_ GE299.out | refine below_set ?_ GE300.out) | exact HB.out)⟩
    ·replace c44 := Bool.eq_false_iff.mpr c44
     subst c44
     have H1 : ((deadlines_Due.f kj8 a0_0 a0_1 a0_2 l0_3 l1 a3 a4).bind fun t304 => ((api_Extension.f l1).bind fun t305 => ((some (([(⟨a2_0, a2_1, a2_2⟩ : S49)] : List (S49)) : List (S49))).bind fun y308 => (if t305.length + y308.length < 4398046511104 then ((deadlines_Due.f kj8 a0_0 a0_1 a0_2 l0_3 (t305 ++ y308) a3 a4).bind fun t314 => (if t304 < a0_0 then (assessorlaw51_DeadlinesExtends.j1 kj8 a3 a4 a5 t304 t314 true a0_0 a0_1 a0_2 l0_3 a2_0 a2_1 a2_2) else (if t314 < t304 then (assessorlaw51_DeadlinesExtends.j1 kj8 a3 a4 a5 t304 t314 true a0_0 a0_1 a0_2 l0_3 a2_0 a2_1 a2_2) else (if a2_0.toList = a3.toList then (if a2_2 > a4 then (assessorlaw51_DeadlinesExtends.j1 kj8 a3 a4 a5 t304 t314 (t304 != t314) a0_0 a0_1 a0_2 l0_3 a2_0 a2_1 a2_2) else (assessorlaw51_DeadlinesExtends.j1 kj8 a3 a4 a5 t304 t314 false a0_0 a0_1 a0_2 l0_3 a2_0 a2_1 a2_2)) else (assessorlaw51_DeadlinesExtends.j1 kj8 a3 a4 a5 t304 t314 (t304 != t314) a0_0 a0_1 a0_2 l0_3 a2_0 a2_1 a2_2))))) else (none))))) = some r := by rw [if_neg (show ¬ (false = true) by decide)] at H; exact H
     clear H
     have H := H1
     clear H1
     replace H := Option.bind_eq_some_iff.mp H
     obtain ⟨t304, A450, H⟩ := H
     replace H : ((api_Extension.f l1).bind fun t305 => ((some (([(⟨a2_0, a2_1, a2_2⟩ : S49)] : List (S49)) : List (S49))).bind fun y308 => (if t305.length + y308.length < 4398046511104 then ((deadlines_Due.f kj8 a0_0 a0_1 a0_2 l0_3 (t305 ++ y308) a3 a4).bind fun t314 => (if t304 < a0_0 then (assessorlaw51_DeadlinesExtends.j1 kj8 a3 a4 a5 t304 t314 true a0_0 a0_1 a0_2 l0_3 a2_0 a2_1 a2_2) else (if t314 < t304 then (assessorlaw51_DeadlinesExtends.j1 kj8 a3 a4 a5 t304 t314 true a0_0 a0_1 a0_2 l0_3 a2_0 a2_1 a2_2) else (if a2_0.toList = a3.toList then (if a2_2 > a4 then (assessorlaw51_DeadlinesExtends.j1 kj8 a3 a4 a5 t304 t314 (t304 != t314) a0_0 a0_1 a0_2 l0_3 a2_0 a2_1 a2_2) else (assessorlaw51_DeadlinesExtends.j1 kj8 a3 a4 a5 t304 t314 false a0_0 a0_1 a0_2 l0_3 a2_0 a2_1 a2_2)) else (assessorlaw51_DeadlinesExtends.j1 kj8 a3 a4 a5 t304 t314 (t304 != t314) a0_0 a0_1 a0_2 l0_3 a2_0 a2_1 a2_2))))) else (none)))) = some r := H
     have A45 := Aside0.mk A450
     clear A450
     replace H := Option.bind_eq_some_iff.mp H
     obtain ⟨t305, A460, H⟩ := H
     replace H : ((some (([(⟨a2_0, a2_1, a2_2⟩ : S49)] : List (S49)) : List (S49))).bind fun y308 => (if t305.length + y308.length < 4398046511104 then ((deadlines_Due.f kj8 a0_0 a0_1 a0_2 l0_3 (t305 ++ y308) a3 a4).bind fun t314 => (if t304 < a0_0 then (assessorlaw51_DeadlinesExtends.j1 kj8 a3 a4 a5 t304 t314 true a0_0 a0_1 a0_2 l0_3 a2_0 a2_1 a2_2) else (if t314 < t304 then (assessorlaw51_DeadlinesExtends.j1 kj8 a3 a4 a5 t304 t314 true a0_0 a0_1 a0_2 l0_3 a2_0 a2_1 a2_2) else (if a2_0.toList = a3.toList then (if a2_2 > a4 then (assessorlaw51_DeadlinesExtends.j1 kj8 a3 a4 a5 t304 t314 (t304 != t314) a0_0 a0_1 a0_2 l0_3 a2_0 a2_1 a2_2) else (assessorlaw51_DeadlinesExtends.j1 kj8 a3 a4 a5 t304 t314 false a0_0 a0_1 a0_2 l0_3 a2_0 a2_1 a2_2)) else (assessorlaw51_DeadlinesExtends.j1 kj8 a3 a4 a5 t304 t314 (t304 != t314) a0_0 a0_1 a0_2 l0_3 a2_0 a2_1 a2_2))))) else (none))) = some r := H
     have A46 := Aside0.mk A460
     clear A460
     obtain ⟨y308, hy308⟩ : ∃ y_ : List (S49), y_ = (([(⟨a2_0, a2_1, a2_2⟩ : S49)] : List (S49))) := ⟨_, rfl⟩
     replace H : (if t305.length + y308.length < 4398046511104 then ((deadlines_Due.f kj8 a0_0 a0_1 a0_2 l0_3 (t305 ++ y308) a3 a4).bind fun t314 => (if t304 < a0_0 then (assessorlaw51_DeadlinesExtends.j1 kj8 a3 a4 a5 t304 t314 true a0_0 a0_1 a0_2 l0_3 a2_0 a2_1 a2_2) else (if t314 < t304 then (assessorlaw51_DeadlinesExtends.j1 kj8 a3 a4 a5 t304 t314 true a0_0 a0_1 a0_2 l0_3 a2_0 a2_1 a2_2) else (if a2_0.toList = a3.toList then (if a2_2 > a4 then (assessorlaw51_DeadlinesExtends.j1 kj8 a3 a4 a5 t304 t314 (t304 != t314) a0_0 a0_1 a0_2 l0_3 a2_0 a2_1 a2_2) else (assessorlaw51_DeadlinesExtends.j1 kj8 a3 a4 a5 t304 t314 false a0_0 a0_1 a0_2 l0_3 a2_0 a2_1 a2_2)) else (assessorlaw51_DeadlinesExtends.j1 kj8 a3 a4 a5 t304 t314 (t304 != t314) a0_0 a0_1 a0_2 l0_3 a2_0 a2_1 a2_2))))) else (none)) = some r := by first | (rw [hy308]; with_reducible exact H) | (have H2_ := (Option.bind_some _ _).symm.trans H; rw [hy308]; with_reducible exact H2_) | (have H2_ := (Option.bind_some _ _).symm.trans H; with_reducible exact H2_) | with_reducible exact H | (rw [hy308]; exact H) | exact H
     have Ny308 := Aside0.mk hy308
     clear hy308
     by_cases c47 : t305.length + y308.length < 4398046511104
     ·rw [if_pos c47] at H
      have LMc47 := Aside0.mk c47
      clear c47
      obtain ⟨y311, hy311⟩ : ∃ y_ : List (S49), y_ = (t305 ++ y308) := ⟨_, rfl⟩
      replace H : ((deadlines_Due.f kj8 a0_0 a0_1 a0_2 l0_3 y311 a3 a4).bind fun t314 => (if t304 < a0_0 then (assessorlaw51_DeadlinesExtends.j1 kj8 a3 a4 a5 t304 t314 true a0_0 a0_1 a0_2 l0_3 a2_0 a2_1 a2_2) else (if t314 < t304 then (assessorlaw51_DeadlinesExtends.j1 kj8 a3 a4 a5 t304 t314 true a0_0 a0_1 a0_2 l0_3 a2_0 a2_1 a2_2) else (if a2_0.toList = a3.toList then (if a2_2 > a4 then (assessorlaw51_DeadlinesExtends.j1 kj8 a3 a4 a5 t304 t314 (t304 != t314) a0_0 a0_1 a0_2 l0_3 a2_0 a2_1 a2_2) else (assessorlaw51_DeadlinesExtends.j1 kj8 a3 a4 a5 t304 t314 false a0_0 a0_1 a0_2 l0_3 a2_0 a2_1 a2_2)) else (assessorlaw51_DeadlinesExtends.j1 kj8 a3 a4 a5 t304 t314 (t304 != t314) a0_0 a0_1 a0_2 l0_3 a2_0 a2_1 a2_2))))) = some r := by first | (rw [hy311]; with_reducible exact H) | (have H2_ := (Option.bind_some _ _).symm.trans H; rw [hy311]; with_reducible exact H2_) | (have H2_ := (Option.bind_some _ _).symm.trans H; with_reducible exact H2_) | with_reducible exact H | (rw [hy311]; exact H) | exact H
      have Ny311 := Aside0.mk hy311
      clear hy311
      replace H := Option.bind_eq_some_iff.mp H
      obtain ⟨t314, A480, H⟩ := H
      replace H : (if t304 < a0_0 then (assessorlaw51_DeadlinesExtends.j1 kj8 a3 a4 a5 t304 t314 true a0_0 a0_1 a0_2 l0_3 a2_0 a2_1 a2_2) else (if t314 < t304 then (assessorlaw51_DeadlinesExtends.j1 kj8 a3 a4 a5 t304 t314 true a0_0 a0_1 a0_2 l0_3 a2_0 a2_1 a2_2) else (if a2_0.toList = a3.toList then (if a2_2 > a4 then (assessorlaw51_DeadlinesExtends.j1 kj8 a3 a4 a5 t304 t314 (t304 != t314) a0_0 a0_1 a0_2 l0_3 a2_0 a2_1 a2_2) else (assessorlaw51_DeadlinesExtends.j1 kj8 a3 a4 a5 t304 t314 false a0_0 a0_1 a0_2 l0_3 a2_0 a2_1 a2_2)) else (assessorlaw51_DeadlinesExtends.j1 kj8 a3 a4 a5 t304 t314 (t304 != t314) a0_0 a0_1 a0_2 l0_3 a2_0 a2_1 a2_2)))) = some r := H
      have A48 := Aside0.mk A480
      clear A480
      have HC49 := Aside0.mk H
      clear H
      try go_wp2
      have n0_ := Aside0.mk (blk_drew BK299.out)
      have n1_ := Aside0.mk (blk_drew BK300.out)
      have n2_ := Aside0.mk (below_drew1 HB.out)
      clear BK299
      clear BK300
      clear HB
      have BK299 := n0_
      have BK300 := n1_
      have HB := n2_
      clear n0_ n1_ n2_
      refine start_ (n := 16) (S := fun w' => w'.cell? ⟨gb299, 0, none⟩ = some (.int .i64 a0_0) ∧ w'.cell? ⟨gb299, 1, none⟩ = some (.int .i64 a0_1) ∧ w'.cell? ⟨gb299, 2, none⟩ = some (.bool a0_2) ∧ w'.cell? ⟨gb299, 3, none⟩ = some (.slice A0_3 l0_3.length c0_3) ∧ w'.cell? ⟨gb300, 0, none⟩ = some (.string a2_0) ∧ w'.cell? ⟨gb300, 1, none⟩ = some (.int .i64 a2_1) ∧ w'.cell? ⟨gb300, 2, none⟩ = some (.int .i64 a2_2)) (ds := []) #[false, false, false, false, false, false, false, false, false, false, false, false, false, false, false, false] (by kernel_rfl) rfl rfl ⟨(blk_cell BK299.out 0).trans rfl, (blk_cell BK299.out 1).trans rfl, (blk_cell BK299.out 2).trans rfl, (blk_cell BK299.out 3).trans rfl, (blk_cell BK300.out 0).trans rfl, (blk_cell BK300.out 1).trans rfl, (blk_cell BK300.out 2).trans rfl⟩ (fun hHeld => ?_); refine with_tabW assessorlaw51_DeadlinesExtends.tab5 assessorlaw51_DeadlinesExtends.bits5 (fun HT_ HW_ => ?_)
      generalize wc.drew = w50 at BK299 BK300 HB hHeld ⊢
      refine pure_ (i := 1) (N := some 42) (v := ?_) (a' := ?_) #[false, true, false, false, false, false, false, false, false, false, false, false, false, false, false, false] rfl rfl (any_of HT_.out (by kernel_rfl)) (fun _ _ _ h => h) (Or.inl ⟨by rfl, ?_⟩) ?_ ?_
      rotate_left
      ·intro w'
       go_simp
       with_reducible rfl
      rotate_left
      ·simp only [Act.put, List.setIfInBounds_toArray, List.set_cons_zero, List.set_cons_succ, i64_w, i32_w]
       rfl
      refine pure_ (i := 2) (N := some 43) (v := ?_) (a' := ?_) #[false, true, true, false, false, false, false, false, false, false, false, false, false, false, false, false] rfl rfl (any_of HT_.out (by kernel_rfl)) (fun _ _ _ h => h) (Or.inl ⟨by rfl, ?_⟩) ?_ ?_
      rotate_left
      ·intro w'
       go_simp
       with_reducible rfl
      rotate_left
      ·simp only [Act.put, List.setIfInBounds_toArray, List.set_cons_zero, List.set_cons_succ, i64_w, i32_w]
       rfl
      refine pure_ (i := 3) (N := some 44) (v := ?_) (a' := ?_) #[false, true, true, true, false, false, false, false, false, false, false, false, false, false, false, false] rfl rfl (any_of HT_.out (by kernel_rfl)) (fun _ _ _ h => h) (Or.inl ⟨by rfl, ?_⟩) ?_ ?_
      rotate_left
      ·intro w'
       go_simp
       with_reducible rfl
      rotate_left
      ·simp only [Act.put, List.setIfInBounds_toArray, List.set_cons_zero, List.set_cons_succ, i64_w, i32_w]
       rfl
      refine pure_ (i := 6) (N := some 47) (v := ?_) (a' := ?_) #[false, true, true, true, false, false, true, false, false, false, false, false, false, false, false, false] rfl rfl (any_of HT_.out (by kernel_rfl)) (fun _ _ _ h => h) (Or.inl ⟨by rfl, ?_⟩) ?_ ?_
      rotate_left
      ·intro w'
       go_simp
       with_reducible rfl
      rotate_left
      ·simp only [Act.put, List.setIfInBounds_toArray, List.set_cons_zero, List.set_cons_succ, i64_w, i32_w]
       rfl
      refine pure_ (i := 11) (N := some 52) (v := ?_) (a' := ?_) #[false, true, true, true, false, false, true, false, false, false, false, true, false, false, false, false] rfl rfl (any_of HT_.out (by kernel_rfl)) (fun _ _ _ h => h) (Or.inl ⟨by rfl, ?_⟩) ?_ ?_
      rotate_left
      ·intro w'
       go_simp
       with_reducible rfl
      rotate_left
      ·simp only [Act.put, List.setIfInBounds_toArray, List.set_cons_zero, List.set_cons_succ, i64_w, i32_w]
       rfl
      refine pure_ (i := 12) (N := some 53) (v := ?_) (a' := ?_) #[false, true, true, true, false, false, true, false, false, false, false, true, true, false, false, false] rfl rfl (any_of HT_.out (by kernel_rfl)) (fun _ _ _ h => h) (Or.inl ⟨by rfl, ?_⟩) ?_ ?_
      rotate_left
      ·intro w'
       go_simp
       with_reducible rfl
      rotate_left
      ·simp only [Act.put, List.setIfInBounds_toArray, List.set_cons_zero, List.set_cons_succ, i64_w, i32_w]
       rfl
      refine take_ (i := 0) (N := some 41) (v := ?_) (a' := ?_) #[true, true, true, true, false, false, true, false, false, false, false, true, true, false, false, false] rfl rfl (take_ofW HT_.out HW_.out (by kernel_rfl)) (fun _ _ _ h => h) (Or.inl ⟨by rfl, ?_⟩) hHeld ?_ ?_
      rotate_left
      ·rintro w' ⟨s0, s1, s2, s3, s4, s5, s6⟩
       go_simp
       with_reducible rfl
      rotate_left
      ·simp only [Act.put, List.setIfInBounds_toArray, List.set_cons_zero, List.set_cons_succ, i64_w, i32_w]
       rfl
      refine take_ (i := 5) (N := some 46) (v := ?_) (a' := ?_) #[true, true, true, true, false, true, true, false, false, false, false, true, true, false, false, false] rfl rfl (take_ofW HT_.out HW_.out (by kernel_rfl)) (fun _ _ _ h => h) (Or.inl ⟨by rfl, ?_⟩) hHeld ?_ ?_
      rotate_left
      ·rintro w' ⟨s0, s1, s2, s3, s4, s5, s6⟩
       go_simp
       with_reducible rfl
      rotate_left
      ·simp only [Act.put, List.setIfInBounds_toArray, List.set_cons_zero, List.set_cons_succ, i64_w, i32_w]
       rfl
      refine take_ (i := 8) (N := some 49) (v := ?_) (a' := ?_) #[true, true, true, true, false, true, true, false, true, false, false, true, true, false, false, false] rfl rfl (take_ofW HT_.out HW_.out (by kernel_rfl)) (fun _ _ _ h => h) (Or.inl ⟨by rfl, ?_⟩) hHeld ?_ ?_
      rotate_left
      ·rintro w' ⟨s0, s1, s2, s3, s4, s5, s6⟩
       go_simp
       with_reducible rfl
      rotate_left
      ·simp only [Act.put, List.setIfInBounds_toArray, List.set_cons_zero, List.set_cons_succ, i64_w, i32_w]
       rfl
      refine join_ (σ := Value × Value) 4 #[true, true, true, true, true, true, true, true, true, true, false, true, true, false, false, false] (fun s_ => [(45, .int .i64 t304), (48, s_.1), (50, s_.2)]) (fun s_ w' => (w'.cell? ⟨gb299, 0, none⟩ = some (.int .i64 a0_0) ∧ w'.cell? ⟨gb299, 1, none⟩ = some (.int .i64 a0_1) ∧ w'.cell? ⟨gb299, 2, none⟩ = some (.bool a0_2) ∧ w'.cell? ⟨gb299, 3, none⟩ = some (.slice A0_3 l0_3.length c0_3) ∧ w'.cell? ⟨gb300, 0, none⟩ = some (.string a2_0) ∧ w'.cell? ⟨gb300, 1, none⟩ = some (.int .i64 a2_1) ∧ w'.cell? ⟨gb300, 2, none⟩ = some (.int .i64 a2_2)) ∧ (Kd.R k49 49 w' w.heap.size (fun k_ => some k_ ≠ (s_.2 : Value).ownBlock ∧ k_ ≠ gb300) s_.1 t305) ∧ (Kd.R k49 49 w' w.heap.size (fun k_ => some k_ ≠ (s_.1 : Value).ownBlock ∧ k_ ≠ gb300) s_.2 y308) ∧ (w'.heap[gb299]? = some (.cells #[.int .i64 a0_0, .int .i64 a0_1, .bool a0_2, .slice A0_3 l0_3.length c0_3] 24 (0, 0))) ∧ (w'.heap[gb300]? = some (.cells #[.string a2_0, .int .i64 a2_1, .int .i64 a2_2] 49 (0, 0))) ∧ (Below w.heap.size w w')) ?_ ?_
      rotate_left
      ·intro hCont
       refine two_ (i := 4) (j := 9) (Ni := some 45) (Nj := some 50) #[true, true, true, true, true, true, true, false, true, false, false, true, true, false, false, false] #[true, true, true, true, false, true, true, false, true, true, false, true, true, false, false, false] rfl rfl rfl rfl (two_of HT_.out (by kernel_rfl)) (by decide) (by decide) (fun K hK => ?_) (fun K hK => ?_)
       ·skip
        refine goes_ Try.func17 (by kernel_rfl) rfl #[.agg #[.int .i64 a0_0, .int .i64 a0_1, .bool a0_2, .slice A0_3 l0_3.length c0_3], .slice A1 l1.length c1, .string a3, .int .i64 a4] (by rfl) rfl rfl (by (try simp only [List.map_toArray, List.map_cons, List.map_nil]); first | done | rfl | (simp only [List.length_drop, List.length_take]; rfl)) ?_
        with_reducible refine (deadlines_Due.calls kj8 a0_0 a0_1 a0_2 _ _ l0_3 _ _ l1 a3 a4 t304 _ ?side1 ?side2 ?side3 ?side4 A45.out).mono ?_
        (case side1 => repeat (first | exact (Kd.C_below HR0_3.out HB.out) | (with_reducible refine Kd.C_alloc ?_ _) | (with_reducible refine Kd.C_drewN ?_ _) | (with_reducible refine Kd.C_drew ?_)))
        (case side2 => exact HC0_3.out)
        (case side3 => repeat (first | exact (Kd.C_below HR1.out HB.out) | (with_reducible refine Kd.C_alloc ?_ _) | (with_reducible refine Kd.C_drewN ?_ _) | (with_reducible refine Kd.C_drew ?_)))
        (case side4 => exact HC1.out)
        rintro e w51 ⟨rfl, hb⟩
        refine ⟨_, rfl, ?_⟩
        have n0_ := Aside0.mk (blk_below (g := gb299) (o := .cells #[.int .i64 a0_0, .int .i64 a0_1, .bool a0_2, .slice A0_3 l0_3.length c0_3] 24 (0, 0)) (by (with_reducible repeat (first | refine blk_drewN ?_ _ | refine blk_drew ?_ | refine blk_alloc ?_ _)); exact BK299.out) hb)
        have n1_ := Aside0.mk (blk_below (g := gb300) (o := .cells #[.string a2_0, .int .i64 a2_1, .int .i64 a2_2] 49 (0, 0)) (by (with_reducible repeat (first | refine blk_drewN ?_ _ | refine blk_drew ?_ | refine blk_alloc ?_ _)); exact BK300.out) hb)
        have n2_ := Aside0.mk (below_step (by repeat (first | (with_reducible first | exact HB.out | apply below_alloc | apply pw_below_drewN | apply below_drew1 | refine below_set ?_ GE299.out | refine below_set ?_ GE300.out) | exact HB.out)) hb)
        clear BK299
        clear BK300
        clear HB
        have BK299 := n0_
        have BK300 := n1_
        have HB := n2_
        clear n0_ n1_ n2_
        (try clear hb)
        (try clear hb2)
        (try clear hk)
        (try clear hi)
        refine hK.out _ _ ⟨(blk_cell BK299.out 0).trans rfl, (blk_cell BK299.out 1).trans rfl, (blk_cell BK299.out 2).trans rfl, (blk_cell BK299.out 3).trans rfl, (blk_cell BK300.out 0).trans rfl, (blk_cell BK300.out 1).trans rfl, (blk_cell BK300.out 2).trans rfl⟩ (fun hHeld => ?_)
        clear hK K
        refine norm_ (a' := ?_) ?_ ?_
        rotate_left
        ·show Act.put _ (some 45) _ = _
         simp only [Act.put, List.setIfInBounds_toArray, List.set_cons_zero, List.set_cons_succ, i64_w, i32_w]
         rfl
        refine two_ (i := 7) (j := 9) (Ni := some 48) (Nj := some 50) #[true, true, true, true, true, true, true, true, true, false, false, true, true, false, false, false] #[true, true, true, true, true, true, true, false, true, true, false, true, true, false, false, false] rfl rfl rfl rfl (two_of HT_.out (by kernel_rfl)) (by decide) (by decide) (fun K hK => ?_) (fun K hK => ?_)
        ·skip
         refine goes_ Try.func23 (by kernel_rfl) rfl #[.slice A1 l1.length c1] (by rfl) rfl rfl (by (try simp only [List.map_toArray, List.map_cons, List.map_nil]); first | done | rfl | (simp only [List.length_drop, List.length_take]; rfl)) ?_
         with_reducible refine (api_Extension.calls _ _ l1 t305 _ ?side1 ?side2 A46.out).mono ?_
         (case side1 => repeat (first | exact (Kd.C_below HR1.out HB.out) | (with_reducible refine Kd.C_alloc ?_ _) | (with_reducible refine Kd.C_drewN ?_ _) | (with_reducible refine Kd.C_drew ?_)))
         (case side2 => exact HC1.out)
         rintro e w52 ⟨v306, rfl, ho0, hb⟩
         refine ⟨_, rfl, ?_⟩
         have n0_ := Aside0.mk (Kd.R_lower (Kd.R_newB ho0 (g := gb300) (o := .cells #[.string a2_0, .int .i64 a2_1, .int .i64 a2_2] 49 (0, 0)) (by (with_reducible repeat (first | refine blk_drewN ?_ _ | refine blk_drew ?_ | refine blk_alloc ?_ _)); exact BK300.out)) (below_size (by repeat (first | (with_reducible first | exact HB.out | apply below_alloc | apply pw_below_drewN | apply below_drew1 | refine below_set ?_ GE299.out | refine below_set ?_ GE300.out) | exact HB.out))))
         have n1_ := Aside0.mk (blk_below (g := gb299) (o := .cells #[.int .i64 a0_0, .int .i64 a0_1, .bool a0_2, .slice A0_3 l0_3.length c0_3] 24 (0, 0)) (by (with_reducible repeat (first | refine blk_drewN ?_ _ | refine blk_drew ?_ | refine blk_alloc ?_ _)); exact BK299.out) hb)
         have n2_ := Aside0.mk (blk_below (g := gb300) (o := .cells #[.string a2_0, .int .i64 a2_1, .int .i64 a2_2] 49 (0, 0)) (by (with_reducible repeat (first | refine blk_drewN ?_ _ | refine blk_drew ?_ | refine blk_alloc ?_ _)); exact BK300.out) hb)
         have n3_ := Aside0.mk (below_step (by repeat (first | (with_reducible first | exact HB.out | apply below_alloc | apply pw_below_drewN | apply below_drew1 | refine below_set ?_ GE299.out | refine below_set ?_ GE300.out) | exact HB.out)) hb)
         clear BK299
         clear BK300
         clear HB
         have HO307 := n0_
         have BK299 := n1_
         have BK300 := n2_
         have HB := n3_
         clear n0_ n1_ n2_ n3_
         (try clear hb)
         (try clear hb2)
         (try clear hk)
         (try clear hi)
         (try clear ho0)
         refine hK.out _ _ ⟨(blk_cell BK299.out 0).trans rfl, (blk_cell BK299.out 1).trans rfl, (blk_cell BK299.out 2).trans rfl, (blk_cell BK299.out 3).trans rfl, (blk_cell BK300.out 0).trans rfl, (blk_cell BK300.out 1).trans rfl, (blk_cell BK300.out 2).trans rfl⟩ (fun hHeld => ?_)
         clear hK K
         refine norm_ (a' := ?_) ?_ ?_
         rotate_left
         ·show Act.put _ (some 48) _ = _
          simp only [Act.put, List.setIfInBounds_toArray, List.set_cons_zero, List.set_cons_succ, i64_w, i32_w]
          rfl
         refine one_ (i := 9) (N := some 50) #[true, true, true, true, true, true, true, true, true, true, false, true, true, false, false, false] rfl rfl (one_of HT_.out (by kernel_rfl)) (by decide) (fun K hK => ?_)
         refine Kd.R_lit_step k49 _ 49 ?hg (N := 50) ?hd (xs := ([(⟨a2_0, a2_1, a2_2⟩ : S49)] : List (S49))) (inner := [.string a2_0, .int .i64 a2_1, .int .i64 a2_2]) (ok := fun _ => True) (okp := fun _ => True) ?hr ?hp (fun _ hk => hk) trivial (Below.refl _ _) (Nat.le_refl _) (by simp) ?_; (case hd => rfl); (case hg => rfl); (case hr => first | (go_simp; done) | (go_simp; rfl)); (case hp => exact (Reps.c3 (show Kd.M k49 _ _ _ (⟨a2_0, a2_1, a2_2⟩ : S49) [.string a2_0, .int .i64 a2_1, .int .i64 a2_2] from (k49_mkM _ _ _ (⟨a2_0, a2_1, a2_2⟩ : S49) )) (Reps.none _ _)))
         intro v309 w53 ho54 hb hg_ hnew_
         clear hg_ hnew_
         (first | rw [← Ny308.out] at ho54 | (simp only [Int.reduceToNat] at ho54; rw [← Ny308.out] at ho54))
         have n0_ := Aside0.mk (Kd.R_elder' (by (with_reducible repeat (first | apply Kd.R_alloc | apply Kd.R_drewN | apply Kd.R_drew)); exact HO307.out) (Kd.R_base ho54) hb)
         have n1_ := Aside0.mk (Kd.R_lower (Kd.R_newB (Kd.R_new' ho54 (Kd.R_lt (by (with_reducible repeat (first | apply Kd.R_alloc | apply Kd.R_drewN | apply Kd.R_drew)); exact HO307.out))) (g := gb300) (o := .cells #[.string a2_0, .int .i64 a2_1, .int .i64 a2_2] 49 (0, 0)) (by (with_reducible repeat (first | refine blk_drewN ?_ _ | refine blk_drew ?_ | refine blk_alloc ?_ _)); exact BK300.out)) (below_size (by repeat (first | (with_reducible first | exact HB.out | apply below_alloc | apply pw_below_drewN | apply below_drew1 | refine below_set ?_ GE299.out | refine below_set ?_ GE300.out) | exact HB.out))))
         have n2_ := Aside0.mk (blk_below (g := gb299) (o := .cells #[.int .i64 a0_0, .int .i64 a0_1, .bool a0_2, .slice A0_3 l0_3.length c0_3] 24 (0, 0)) (by (with_reducible repeat (first | refine blk_drewN ?_ _ | refine blk_drew ?_ | refine blk_alloc ?_ _)); exact BK299.out) hb)
         have n3_ := Aside0.mk (blk_below (g := gb300) (o := .cells #[.string a2_0, .int .i64 a2_1, .int .i64 a2_2] 49 (0, 0)) (by (with_reducible repeat (first | refine blk_drewN ?_ _ | refine blk_drew ?_ | refine blk_alloc ?_ _)); exact BK300.out) hb)
         have n4_ := Aside0.mk (below_step (by repeat (first | (with_reducible first | exact HB.out | apply below_alloc | apply pw_below_drewN | apply below_drew1 | refine below_set ?_ GE299.out | refine below_set ?_ GE300.out) | exact HB.out)) hb)
         clear HO307
         clear BK299
         clear BK300
         clear HB
         have HO307 := n0_
         have HO310 := n1_
         have BK299 := n2_
         have BK300 := n3_
         have HB := n4_
         clear n0_ n1_ n2_ n3_ n4_
         clear hb ho54
         refine hK.out _ _ ⟨(blk_cell BK299.out 0).trans rfl, (blk_cell BK299.out 1).trans rfl, (blk_cell BK299.out 2).trans rfl, (blk_cell BK299.out 3).trans rfl, (blk_cell BK300.out 0).trans rfl, (blk_cell BK300.out 1).trans rfl, (blk_cell BK300.out 2).trans rfl⟩ (fun hHeld => ?_)
         clear hK K
         refine norm_ (a' := ?_) ?_ ?_
         rotate_left
         ·show Act.put _ (some 50) _ = _
          simp only [Act.put, List.setIfInBounds_toArray, List.set_cons_zero, List.set_cons_succ, i64_w, i32_w]
          rfl
         exact norm_ (by simp only [putAll, Act.put, List.setIfInBounds_toArray, List.set_cons_zero, List.set_cons_succ]) (hCont (v306, v309) _ ⟨hHeld, (by (with_reducible repeat (first | apply Kd.R_alloc | apply Kd.R_drewN | apply Kd.R_drew)); exact Kd.R_mono HO307.out (fun _ hk => ⟨hk.2, hk.1.2⟩)), (by (with_reducible repeat (first | apply Kd.R_alloc | apply Kd.R_drewN | apply Kd.R_drew)); exact Kd.R_mono HO310.out (fun _ hk => ⟨hk.1.2, hk.2⟩)), (by (with_reducible repeat (first | refine blk_drewN ?_ _ | refine blk_drew ?_ | refine blk_alloc ?_ _)); exact BK299.out), (by (with_reducible repeat (first | refine blk_drewN ?_ _ | refine blk_drew ?_ | refine blk_alloc ?_ _)); exact BK300.out), (by repeat (first | (with_reducible first | exact HB.out | apply below_alloc | apply pw_below_drewN | apply below_drew1 | refine below_set ?_ GE299.out | refine below_set ?_ GE300.out) | exact HB.out))⟩)
        ·skip
         refine Kd.R_lit_step k49 _ 49 ?hg (N := 50) ?hd (xs := ([(⟨a2_0, a2_1, a2_2⟩ : S49)] : List (S49))) (inner := [.string a2_0, .int .i64 a2_1, .int .i64 a2_2]) (ok := fun _ => True) (okp := fun _ => True) ?hr ?hp (fun _ hk => hk) trivial (Below.refl _ _) (Nat.le_refl _) (by simp) ?_; (case hd => rfl); (case hg => rfl); (case hr => first | (go_simp; done) | (go_simp; rfl)); (case hp => exact (Reps.c3 (show Kd.M k49 _ _ _ (⟨a2_0, a2_1, a2_2⟩ : S49) [.string a2_0, .int .i64 a2_1, .int .i64 a2_2] from (k49_mkM _ _ _ (⟨a2_0, a2_1, a2_2⟩ : S49) )) (Reps.none _ _)))
         intro v309 w52 ho53 hb hg_ hnew_
         clear hg_ hnew_
         (first | rw [← Ny308.out] at ho53 | (simp only [Int.reduceToNat] at ho53; rw [← Ny308.out] at ho53))
         have n0_ := Aside0.mk (Kd.R_lower (Kd.R_newB ho53 (g := gb300) (o := .cells #[.string a2_0, .int .i64 a2_1, .int .i64 a2_2] 49 (0, 0)) (by (with_reducible repeat (first | refine blk_drewN ?_ _ | refine blk_drew ?_ | refine blk_alloc ?_ _)); exact BK300.out)) (below_size (by repeat (first | (with_reducible first | exact HB.out | apply below_alloc | apply pw_below_drewN | apply below_drew1 | refine below_set ?_ GE299.out | refine below_set ?_ GE300.out) | exact HB.out))))
         have n1_ := Aside0.mk (blk_below (g := gb299) (o := .cells #[.int .i64 a0_0, .int .i64 a0_1, .bool a0_2, .slice A0_3 l0_3.length c0_3] 24 (0, 0)) (by (with_reducible repeat (first | refine blk_drewN ?_ _ | refine blk_drew ?_ | refine blk_alloc ?_ _)); exact BK299.out) hb)
         have n2_ := Aside0.mk (blk_below (g := gb300) (o := .cells #[.string a2_0, .int .i64 a2_1, .int .i64 a2_2] 49 (0, 0)) (by (with_reducible repeat (first | refine blk_drewN ?_ _ | refine blk_drew ?_ | refine blk_alloc ?_ _)); exact BK300.out) hb)
         have n3_ := Aside0.mk (below_step (by repeat (first | (with_reducible first | exact HB.out | apply below_alloc | apply pw_below_drewN | apply below_drew1 | refine below_set ?_ GE299.out | refine below_set ?_ GE300.out) | exact HB.out)) hb)
         clear BK299
         clear BK300
         clear HB
         have HO310 := n0_
         have BK299 := n1_
         have BK300 := n2_
         have HB := n3_
         clear n0_ n1_ n2_ n3_
         clear hb ho53
         refine hK.out _ _ ⟨(blk_cell BK299.out 0).trans rfl, (blk_cell BK299.out 1).trans rfl, (blk_cell BK299.out 2).trans rfl, (blk_cell BK299.out 3).trans rfl, (blk_cell BK300.out 0).trans rfl, (blk_cell BK300.out 1).trans rfl, (blk_cell BK300.out 2).trans rfl⟩ (fun hHeld => ?_)
         clear hK K
         refine norm_ (a' := ?_) ?_ ?_
         rotate_left
         ·show Act.put _ (some 50) _ = _
          simp only [Act.put, List.setIfInBounds_toArray, List.set_cons_zero, List.set_cons_succ, i64_w, i32_w]
          rfl
         refine one_ (i := 7) (N := some 48) #[true, true, true, true, true, true, true, true, true, true, false, true, true, false, false, false] rfl rfl (one_of HT_.out (by kernel_rfl)) (by decide) (fun K hK => ?_)
         refine goes_ Try.func23 (by kernel_rfl) rfl #[.slice A1 l1.length c1] (by rfl) rfl rfl (by (try simp only [List.map_toArray, List.map_cons, List.map_nil]); first | done | rfl | (simp only [List.length_drop, List.length_take]; rfl)) ?_
         with_reducible refine (api_Extension.calls _ _ l1 t305 _ ?side1 ?side2 A46.out).mono ?_
         (case side1 => repeat (first | exact (Kd.C_below HR1.out HB.out) | (with_reducible refine Kd.C_alloc ?_ _) | (with_reducible refine Kd.C_drewN ?_ _) | (with_reducible refine Kd.C_drew ?_)))
         (case side2 => exact HC1.out)
         rintro e w54 ⟨v306, rfl, ho0, hb⟩
         refine ⟨_, rfl, ?_⟩
         have n0_ := Aside0.mk (Kd.R_elder' (by (with_reducible repeat (first | apply Kd.R_alloc | apply Kd.R_drewN | apply Kd.R_drew)); exact HO310.out) (Kd.R_base ho0) hb)
         have n1_ := Aside0.mk (Kd.R_lower (Kd.R_newB (Kd.R_new' ho0 (Kd.R_lt (by (with_reducible repeat (first | apply Kd.R_alloc | apply Kd.R_drewN | apply Kd.R_drew)); exact HO310.out))) (g := gb300) (o := .cells #[.string a2_0, .int .i64 a2_1, .int .i64 a2_2] 49 (0, 0)) (by (with_reducible repeat (first | refine blk_drewN ?_ _ | refine blk_drew ?_ | refine blk_alloc ?_ _)); exact BK300.out)) (below_size (by repeat (first | (with_reducible first | exact HB.out | apply below_alloc | apply pw_below_drewN | apply below_drew1 | refine below_set ?_ GE299.out | refine below_set ?_ GE300.out) | exact HB.out))))
         have n2_ := Aside0.mk (blk_below (g := gb299) (o := .cells #[.int .i64 a0_0, .int .i64 a0_1, .bool a0_2, .slice A0_3 l0_3.length c0_3] 24 (0, 0)) (by (with_reducible repeat (first | refine blk_drewN ?_ _ | refine blk_drew ?_ | refine blk_alloc ?_ _)); exact BK299.out) hb)
         have n3_ := Aside0.mk (blk_below (g := gb300) (o := .cells #[.string a2_0, .int .i64 a2_1, .int .i64 a2_2] 49 (0, 0)) (by (with_reducible repeat (first | refine blk_drewN ?_ _ | refine blk_drew ?_ | refine blk_alloc ?_ _)); exact BK300.out) hb)
         have n4_ := Aside0.mk (below_step (by repeat (first | (with_reducible first | exact HB.out | apply below_alloc | apply pw_below_drewN | apply below_drew1 | refine below_set ?_ GE299.out | refine below_set ?_ GE300.out) | exact HB.out)) hb)
         clear HO310
         clear BK299
         clear BK300
         clear HB
         have HO310 := n0_
         have HO307 := n1_
         have BK299 := n2_
         have BK300 := n3_
         have HB := n4_
         clear n0_ n1_ n2_ n3_ n4_
         (try clear hb)
         (try clear hb2)
         (try clear hk)
         (try clear hi)
         (try clear ho0)
         refine hK.out _ _ ⟨(blk_cell BK299.out 0).trans rfl, (blk_cell BK299.out 1).trans rfl, (blk_cell BK299.out 2).trans rfl, (blk_cell BK299.out 3).trans rfl, (blk_cell BK300.out 0).trans rfl, (blk_cell BK300.out 1).trans rfl, (blk_cell BK300.out 2).trans rfl⟩ (fun hHeld => ?_)
         clear hK K
         refine norm_ (a' := ?_) ?_ ?_
         rotate_left
         ·show Act.put _ (some 48) _ = _
          simp only [Act.put, List.setIfInBounds_toArray, List.set_cons_zero, List.set_cons_succ, i64_w, i32_w]
          rfl
         exact norm_ (by simp only [putAll, Act.put, List.setIfInBounds_toArray, List.set_cons_zero, List.set_cons_succ]) (hCont (v306, v309) _ ⟨hHeld, (by (with_reducible repeat (first | apply Kd.R_alloc | apply Kd.R_drewN | apply Kd.R_drew)); exact Kd.R_mono HO307.out (fun _ hk => ⟨hk.1.2, hk.2⟩)), (by (with_reducible repeat (first | apply Kd.R_alloc | apply Kd.R_drewN | apply Kd.R_drew)); exact Kd.R_mono HO310.out (fun _ hk => ⟨hk.2, hk.1.2⟩)), (by (with_reducible repeat (first | refine blk_drewN ?_ _ | refine blk_drew ?_ | refine blk_alloc ?_ _)); exact BK299.out), (by (with_reducible repeat (first | refine blk_drewN ?_ _ | refine blk_drew ?_ | refine blk_alloc ?_ _)); exact BK300.out), (by repeat (first | (with_reducible first | exact HB.out | apply below_alloc | apply pw_below_drewN | apply below_drew1 | refine below_set ?_ GE299.out | refine below_set ?_ GE300.out) | exact HB.out))⟩)
       ·skip
        refine Kd.R_lit_step k49 _ 49 ?hg (N := 50) ?hd (xs := ([(⟨a2_0, a2_1, a2_2⟩ : S49)] : List (S49))) (inner := [.string a2_0, .int .i64 a2_1, .int .i64 a2_2]) (ok := fun _ => True) (okp := fun _ => True) ?hr ?hp (fun _ hk => hk) trivial (Below.refl _ _) (Nat.le_refl _) (by simp) ?_; (case hd => rfl); (case hg => rfl); (case hr => first | (go_simp; done) | (go_simp; rfl)); (case hp => exact (Reps.c3 (show Kd.M k49 _ _ _ (⟨a2_0, a2_1, a2_2⟩ : S49) [.string a2_0, .int .i64 a2_1, .int .i64 a2_2] from (k49_mkM _ _ _ (⟨a2_0, a2_1, a2_2⟩ : S49) )) (Reps.none _ _)))
        intro v309 w51 ho52 hb hg_ hnew_
        clear hg_ hnew_
        (first | rw [← Ny308.out] at ho52 | (simp only [Int.reduceToNat] at ho52; rw [← Ny308.out] at ho52))
        have n0_ := Aside0.mk (Kd.R_lower (Kd.R_newB ho52 (g := gb300) (o := .cells #[.string a2_0, .int .i64 a2_1, .int .i64 a2_2] 49 (0, 0)) (by (with_reducible repeat (first | refine blk_drewN ?_ _ | refine blk_drew ?_ | refine blk_alloc ?_ _)); exact BK300.out)) (below_size (by repeat (first | (with_reducible first | exact HB.out | apply below_alloc | apply pw_below_drewN | apply below_drew1 | refine below_set ?_ GE299.out | refine below_set ?_ GE300.out) | exact HB.out))))
        have n1_ := Aside0.mk (blk_below (g := gb299) (o := .cells #[.int .i64 a0_0, .int .i64 a0_1, .bool a0_2, .slice A0_3 l0_3.length c0_3] 24 (0, 0)) (by (with_reducible repeat (first | refine blk_drewN ?_ _ | refine blk_drew ?_ | refine blk_alloc ?_ _)); exact BK299.out) hb)
        have n2_ := Aside0.mk (blk_below (g := gb300) (o := .cells #[.string a2_0, .int .i64 a2_1, .int .i64 a2_2] 49 (0, 0)) (by (with_reducible repeat (first | refine blk_drewN ?_ _ | refine blk_drew ?_ | refine blk_alloc ?_ _)); exact BK300.out) hb)
        have n3_ := Aside0.mk (below_step (by repeat (first | (with_reducible first | exact HB.out | apply below_alloc | apply pw_below_drewN | apply below_drew1 | refine below_set ?_ GE299.out | refine below_set ?_ GE300.out) | exact HB.out)) hb)
        clear BK299
        clear BK300
        clear HB
        have HO310 := n0_
        have BK299 := n1_
        have BK300 := n2_
        have HB := n3_
        clear n0_ n1_ n2_ n3_
        clear hb ho52
        refine hK.out _ _ ⟨(blk_cell BK299.out 0).trans rfl, (blk_cell BK299.out 1).trans rfl, (blk_cell BK299.out 2).trans rfl, (blk_cell BK299.out 3).trans rfl, (blk_cell BK300.out 0).trans rfl, (blk_cell BK300.out 1).trans rfl, (blk_cell BK300.out 2).trans rfl⟩ (fun hHeld => ?_)
        clear hK K
        refine norm_ (a' := ?_) ?_ ?_
        rotate_left
        ·show Act.put _ (some 50) _ = _
         simp only [Act.put, List.setIfInBounds_toArray, List.set_cons_zero, List.set_cons_succ, i64_w, i32_w]
         rfl
        refine one_ (i := 4) (N := some 45) #[true, true, true, true, true, true, true, false, true, true, false, true, true, false, false, false] rfl rfl (one_of HT_.out (by kernel_rfl)) (by decide) (fun K hK => ?_)
        refine goes_ Try.func17 (by kernel_rfl) rfl #[.agg #[.int .i64 a0_0, .int .i64 a0_1, .bool a0_2, .slice A0_3 l0_3.length c0_3], .slice A1 l1.length c1, .string a3, .int .i64 a4] (by rfl) rfl rfl (by (try simp only [List.map_toArray, List.map_cons, List.map_nil]); first | done | rfl | (simp only [List.length_drop, List.length_take]; rfl)) ?_
        with_reducible refine (deadlines_Due.calls kj8 a0_0 a0_1 a0_2 _ _ l0_3 _ _ l1 a3 a4 t304 _ ?side1 ?side2 ?side3 ?side4 A45.out).mono ?_
        (case side1 => repeat (first | exact (Kd.C_below HR0_3.out HB.out) | (with_reducible refine Kd.C_alloc ?_ _) | (with_reducible refine Kd.C_drewN ?_ _) | (with_reducible refine Kd.C_drew ?_)))
        (case side2 => exact HC0_3.out)
        (case side3 => repeat (first | exact (Kd.C_below HR1.out HB.out) | (with_reducible refine Kd.C_alloc ?_ _) | (with_reducible refine Kd.C_drewN ?_ _) | (with_reducible refine Kd.C_drew ?_)))
        (case side4 => exact HC1.out)
        rintro e w53 ⟨rfl, hb⟩
        refine ⟨_, rfl, ?_⟩
        have n0_ := Aside0.mk (Kd.R_below (by (with_reducible repeat (first | apply Kd.R_alloc | apply Kd.R_drewN | apply Kd.R_drew)); exact HO310.out) hb)
        have n1_ := Aside0.mk (blk_below (g := gb299) (o := .cells #[.int .i64 a0_0, .int .i64 a0_1, .bool a0_2, .slice A0_3 l0_3.length c0_3] 24 (0, 0)) (by (with_reducible repeat (first | refine blk_drewN ?_ _ | refine blk_drew ?_ | refine blk_alloc ?_ _)); exact BK299.out) hb)
        have n2_ := Aside0.mk (blk_below (g := gb300) (o := .cells #[.string a2_0, .int .i64 a2_1, .int .i64 a2_2] 49 (0, 0)) (by (with_reducible repeat (first | refine blk_drewN ?_ _ | refine blk_drew ?_ | refine blk_alloc ?_ _)); exact BK300.out) hb)
        have n3_ := Aside0.mk (below_step (by repeat (first | (with_reducible first | exact HB.out | apply below_alloc | apply pw_below_drewN | apply below_drew1 | refine below_set ?_ GE299.out | refine below_set ?_ GE300.out) | exact HB.out)) hb)
        clear HO310
        clear BK299
        clear BK300
        clear HB
        have HO310 := n0_
        have BK299 := n1_
        have BK300 := n2_
        have HB := n3_
        clear n0_ n1_ n2_ n3_
        (try clear hb)
        (try clear hb2)
        (try clear hk)
        (try clear hi)
        refine hK.out _ _ ⟨(blk_cell BK299.out 0).trans rfl, (blk_cell BK299.out 1).trans rfl, (blk_cell BK299.out 2).trans rfl, (blk_cell BK299.out 3).trans rfl, (blk_cell BK300.out 0).trans rfl, (blk_cell BK300.out 1).trans rfl, (blk_cell BK300.out 2).trans rfl⟩ (fun hHeld => ?_)
        clear hK K
        refine norm_ (a' := ?_) ?_ ?_
        rotate_left
        ·show Act.put _ (some 45) _ = _
         simp only [Act.put, List.setIfInBounds_toArray, List.set_cons_zero, List.set_cons_succ, i64_w, i32_w]
         rfl
        refine one_ (i := 7) (N := some 48) #[true, true, true, true, true, true, true, true, true, true, false, true, true, false, false, false] rfl rfl (one_of HT_.out (by kernel_rfl)) (by decide) (fun K hK => ?_)
        refine goes_ Try.func23 (by kernel_rfl) rfl #[.slice A1 l1.length c1] (by rfl) rfl rfl (by (try simp only [List.map_toArray, List.map_cons, List.map_nil]); first | done | rfl | (simp only [List.length_drop, List.length_take]; rfl)) ?_
        with_reducible refine (api_Extension.calls _ _ l1 t305 _ ?side1 ?side2 A46.out).mono ?_
        (case side1 => repeat (first | exact (Kd.C_below HR1.out HB.out) | (with_reducible refine Kd.C_alloc ?_ _) | (with_reducible refine Kd.C_drewN ?_ _) | (with_reducible refine Kd.C_drew ?_)))
        (case side2 => exact HC1.out)
        rintro e w54 ⟨v306, rfl, ho0, hb⟩
        refine ⟨_, rfl, ?_⟩
        have n0_ := Aside0.mk (Kd.R_elder' (by (with_reducible repeat (first | apply Kd.R_alloc | apply Kd.R_drewN | apply Kd.R_drew)); exact HO310.out) (Kd.R_base ho0) hb)
        have n1_ := Aside0.mk (Kd.R_lower (Kd.R_newB (Kd.R_new' ho0 (Kd.R_lt (by (with_reducible repeat (first | apply Kd.R_alloc | apply Kd.R_drewN | apply Kd.R_drew)); exact HO310.out))) (g := gb300) (o := .cells #[.string a2_0, .int .i64 a2_1, .int .i64 a2_2] 49 (0, 0)) (by (with_reducible repeat (first | refine blk_drewN ?_ _ | refine blk_drew ?_ | refine blk_alloc ?_ _)); exact BK300.out)) (below_size (by repeat (first | (with_reducible first | exact HB.out | apply below_alloc | apply pw_below_drewN | apply below_drew1 | refine below_set ?_ GE299.out | refine below_set ?_ GE300.out) | exact HB.out))))
        have n2_ := Aside0.mk (blk_below (g := gb299) (o := .cells #[.int .i64 a0_0, .int .i64 a0_1, .bool a0_2, .slice A0_3 l0_3.length c0_3] 24 (0, 0)) (by (with_reducible repeat (first | refine blk_drewN ?_ _ | refine blk_drew ?_ | refine blk_alloc ?_ _)); exact BK299.out) hb)
        have n3_ := Aside0.mk (blk_below (g := gb300) (o := .cells #[.string a2_0, .int .i64 a2_1, .int .i64 a2_2] 49 (0, 0)) (by (with_reducible repeat (first | refine blk_drewN ?_ _ | refine blk_drew ?_ | refine blk_alloc ?_ _)); exact BK300.out) hb)
        have n4_ := Aside0.mk (below_step (by repeat (first | (with_reducible first | exact HB.out | apply below_alloc | apply pw_below_drewN | apply below_drew1 | refine below_set ?_ GE299.out | refine below_set ?_ GE300.out) | exact HB.out)) hb)
        clear HO310
        clear BK299
        clear BK300
        clear HB
        have HO310 := n0_
        have HO307 := n1_
        have BK299 := n2_
        have BK300 := n3_
        have HB := n4_
        clear n0_ n1_ n2_ n3_ n4_
        (try clear hb)
        (try clear hb2)
        (try clear hk)
        (try clear hi)
        (try clear ho0)
        refine hK.out _ _ ⟨(blk_cell BK299.out 0).trans rfl, (blk_cell BK299.out 1).trans rfl, (blk_cell BK299.out 2).trans rfl, (blk_cell BK299.out 3).trans rfl, (blk_cell BK300.out 0).trans rfl, (blk_cell BK300.out 1).trans rfl, (blk_cell BK300.out 2).trans rfl⟩ (fun hHeld => ?_)
        clear hK K
        refine norm_ (a' := ?_) ?_ ?_
        rotate_left
        ·show Act.put _ (some 48) _ = _
         simp only [Act.put, List.setIfInBounds_toArray, List.set_cons_zero, List.set_cons_succ, i64_w, i32_w]
         rfl
        exact norm_ (by simp only [putAll, Act.put, List.setIfInBounds_toArray, List.set_cons_zero, List.set_cons_succ]) (hCont (v306, v309) _ ⟨hHeld, (by (with_reducible repeat (first | apply Kd.R_alloc | apply Kd.R_drewN | apply Kd.R_drew)); exact Kd.R_mono HO307.out (fun _ hk => ⟨hk.1.2, hk.2⟩)), (by (with_reducible repeat (first | apply Kd.R_alloc | apply Kd.R_drewN | apply Kd.R_drew)); exact Kd.R_mono HO310.out (fun _ hk => ⟨hk.2, hk.1.2⟩)), (by (with_reducible repeat (first | refine blk_drewN ?_ _ | refine blk_drew ?_ | refine blk_alloc ?_ _)); exact BK299.out), (by (with_reducible repeat (first | refine blk_drewN ?_ _ | refine blk_drew ?_ | refine blk_alloc ?_ _)); exact BK300.out), (by repeat (first | (with_reducible first | exact HB.out | apply below_alloc | apply pw_below_drewN | apply below_drew1 | refine below_set ?_ GE299.out | refine below_set ?_ GE300.out) | exact HB.out))⟩)
      rintro ⟨v306, v309⟩ w55 ⟨hS_, h0_, h1_, h2_, h3_, h4_⟩
      have n0_ : Aside0 (Kd.R k49 49 w55 w.heap.size (fun k_ => some k_ ≠ (v309 : Value).ownBlock ∧ k_ ≠ gb300) v306 t305) := ⟨h0_⟩
      have n1_ : Aside0 (Kd.R k49 49 w55 w.heap.size (fun k_ => some k_ ≠ (v306 : Value).ownBlock ∧ k_ ≠ gb300) v309 y308) := ⟨h1_⟩
      have n2_ : Aside0 (w55.heap[gb299]? = some (.cells #[.int .i64 a0_0, .int .i64 a0_1, .bool a0_2, .slice A0_3 l0_3.length c0_3] 24 (0, 0))) := ⟨h2_⟩
      have n3_ : Aside0 (w55.heap[gb300]? = some (.cells #[.string a2_0, .int .i64 a2_1, .int .i64 a2_2] 49 (0, 0))) := ⟨h3_⟩
      have n4_ : Aside0 (Below w.heap.size w w55) := ⟨h4_⟩
      clear BK299
      clear BK300
      clear HB
      clear h0_ h1_ h2_ h3_ h4_
      have HO307 := n0_
      have HO310 := n1_
      have BK299 := n2_
      have BK300 := n3_
      have HB := n4_
      clear n0_ n1_ n2_ n3_ n4_
      have hHeld : w55.cell? ⟨gb299, 0, none⟩ = some (.int .i64 a0_0) ∧ w55.cell? ⟨gb299, 1, none⟩ = some (.int .i64 a0_1) ∧ w55.cell? ⟨gb299, 2, none⟩ = some (.bool a0_2) ∧ w55.cell? ⟨gb299, 3, none⟩ = some (.slice A0_3 l0_3.length c0_3) ∧ w55.cell? ⟨gb300, 0, none⟩ = some (.string a2_0) ∧ w55.cell? ⟨gb300, 1, none⟩ = some (.int .i64 a2_1) ∧ w55.cell? ⟨gb300, 2, none⟩ = some (.int .i64 a2_2) := hS_
      obtain ⟨Ao57, co57, eo57⟩ := Kd.R_slice HO310.out
      (first | subst eo57 | (injection eo57 with f1_ f2_ f3_; have f4_ := f1_.symm; have f5_ := f3_.symm; clear f1_ f2_ f3_; subst f4_; subst f5_))
      refine norm_ (a' := ?_) ?_ ?_
      rotate_left
      ·simp only [putAll, Act.put, List.setIfInBounds_toArray, List.set_cons_zero, List.set_cons_succ]
       rfl
      refine one_ (i := 10) (N := some 51) #[true, true, true, true, true, true, true, true, true, true, true, true, true, false, false, false] rfl rfl (one_of HT_.out (by kernel_rfl)) (by decide) (fun K hK => ?_)
      refine Kd.R_append_rows_step k49 (w0 := w) w.heap.size (by rfl) (.tmp 48) (.tmp 50) 39 49 (.agg #[(.string ⟨#[]⟩), (.int .i64 0), (.int .i64 0)]) 32 rfl Try.underlying39 info49 rfl (by decide) (by omega) v306 t305 y308 _ _ _ (fun k_ => some k_ ≠ (.slice Ao57 y308.length co57 : Value).ownBlock ∧ k_ ≠ gb300) (fun _ => False) rfl rfl ?aO ?aR (fun _ _ h => h) (fun _ h => h.elim) ?aF ?aB ?aS ?aL ?_
      (case aR => repeat (first | exact (Kd.R_reads' HO310.out).2.2 | (with_reducible refine Kd.C_alloc ?_ _) | (with_reducible refine Kd.C_drewN ?_ _) | (with_reducible refine Kd.C_drew ?_)))
      (case aB => exact (by repeat (first | (with_reducible first | exact HB.out | apply below_alloc | apply pw_below_drewN | apply below_drew1 | refine below_set ?_ GE299.out | refine below_set ?_ GE300.out) | exact HB.out)))
      (case aF => exact (fun k_ hk => ⟨Kd.fresh' (Kd.R_lt (by (with_reducible repeat (first | apply Kd.R_alloc | apply Kd.R_drewN | apply Kd.R_drew)); exact HO310.out)) k_ hk, Kd.freshB (g := gb300) (o := .cells #[.string a2_0, .int .i64 a2_1, .int .i64 a2_2] 49 (0, 0)) (by (with_reducible repeat (first | refine blk_drewN ?_ _ | refine blk_drew ?_ | refine blk_alloc ?_ _)); exact BK300.out) k_ hk⟩))
      (case aO => exact (by (with_reducible repeat (first | apply Kd.R_alloc | apply Kd.R_drewN | apply Kd.R_drew)); exact HO307.out))
      (case aS => exact (below_size (by repeat (first | (with_reducible first | exact HB.out | apply below_alloc | apply pw_below_drewN | apply below_drew1 | refine below_set ?_ GE299.out | refine below_set ?_ GE300.out) | exact HB.out))))
      (case aL => have := LMc47.out; omega)
      intro v312 w56 ho hb hg hat
      rw [← Ny311.out] at ho
      have n0_ := Aside0.mk (blk_grown (g := gb299) (o := .cells #[.int .i64 a0_0, .int .i64 a0_1, .bool a0_2, .slice A0_3 l0_3.length c0_3] 24 (0, 0)) (by (with_reducible repeat (first | refine blk_drewN ?_ _ | refine blk_drew ?_ | refine blk_alloc ?_ _)); exact BK299.out) hg (Kd.R_ne HO307.out BK299.out (by decide)))
      have n1_ := Aside0.mk (blk_grown (g := gb300) (o := .cells #[.string a2_0, .int .i64 a2_1, .int .i64 a2_2] 49 (0, 0)) (by (with_reducible repeat (first | refine blk_drewN ?_ _ | refine blk_drew ?_ | refine blk_alloc ?_ _)); exact BK300.out) hg (Kd.R_away HO307.out (fun _ hk => hk.2)))
      have n2_ := Aside0.mk (Kd.R_after (ok := (fun k_ => k_ ≠ gb300)) (by (with_reducible repeat (first | apply Kd.R_alloc | apply Kd.R_drewN | apply Kd.R_drew)); exact Kd.R_mono HO310.out (fun _ hk => ⟨hk.2, hk.1⟩)) hg hat)
      have n3_ := Aside0.mk (hb)
      have n4_ := Aside0.mk (ho)
      clear BK299
      clear BK300
      clear HO310
      clear HB
      clear HO307
      have BK299 := n0_
      have BK300 := n1_
      have HO310 := n2_
      have HB := n3_
      have HO313 := n4_
      clear n0_ n1_ n2_ n3_ n4_
      clear ho hb hg hat
      obtain ⟨Ao58, co58, eo58⟩ := Kd.R_slice HO313.out
      (first | subst eo58 | (injection eo58 with f1_ f2_ f3_; have f4_ := f1_.symm; have f5_ := f3_.symm; clear f1_ f2_ f3_; subst f4_; subst f5_))
      refine hK.out _ _ ⟨(blk_cell BK299.out 0).trans rfl, (blk_cell BK299.out 1).trans rfl, (blk_cell BK299.out 2).trans rfl, (blk_cell BK299.out 3).trans rfl, (blk_cell BK300.out 0).trans rfl, (blk_cell BK300.out 1).trans rfl, (blk_cell BK300.out 2).trans rfl⟩ (fun hHeld => ?_)
      clear hK K
      refine norm_ (a' := ?_) ?_ ?_
      rotate_left
      ·show Act.put _ (some 51) _ = _
       simp only [Act.put, List.setIfInBounds_toArray, List.set_cons_zero, List.set_cons_succ, i64_w, i32_w]
       rfl
      refine one_ (i := 13) (N := some 54) #[true, true, true, true, true, true, true, true, true, true, true, true, true, true, false, false] rfl rfl (one_of HT_.out (by kernel_rfl)) (by decide) (fun K hK => ?_)
      refine goes_ Try.func17 (by kernel_rfl) rfl #[.agg #[.int .i64 a0_0, .int .i64 a0_1, .bool a0_2, .slice A0_3 l0_3.length c0_3], .slice Ao58 y311.length co58, .string a3, .int .i64 a4] (by rfl) rfl rfl (by (try simp only [List.map_toArray, List.map_cons, List.map_nil]); first | done | rfl | (simp only [List.length_drop, List.length_take]; rfl)) ?_
      with_reducible refine (deadlines_Due.calls kj8 a0_0 a0_1 a0_2 _ _ l0_3 _ _ y311 a3 a4 t314 _ ?side1 ?side2 ?side3 ?side4 A48.out).mono ?_
      (case side1 => repeat (first | exact (Kd.C_below HR0_3.out HB.out) | (with_reducible refine Kd.C_alloc ?_ _) | (with_reducible refine Kd.C_drewN ?_ _) | (with_reducible refine Kd.C_drew ?_)))
      (case side2 => exact HC0_3.out)
      (case side3 => repeat (first | exact (Kd.R_reads' HO313.out).2.2 | (with_reducible refine Kd.C_alloc ?_ _) | (with_reducible refine Kd.C_drewN ?_ _) | (with_reducible refine Kd.C_drew ?_)))
      (case side4 => exact (Kd.R_reads' HO313.out).2.1)
      rintro e w59 ⟨rfl, hb⟩
      refine ⟨_, rfl, ?_⟩
      have n0_ := Aside0.mk (Kd.R_below (by (with_reducible repeat (first | apply Kd.R_alloc | apply Kd.R_drewN | apply Kd.R_drew)); exact HO310.out) hb)
      have n1_ := Aside0.mk (Kd.R_below (by (with_reducible repeat (first | apply Kd.R_alloc | apply Kd.R_drewN | apply Kd.R_drew)); exact HO313.out) hb)
      have n2_ := Aside0.mk (blk_below (g := gb299) (o := .cells #[.int .i64 a0_0, .int .i64 a0_1, .bool a0_2, .slice A0_3 l0_3.length c0_3] 24 (0, 0)) (by (with_reducible repeat (first | refine blk_drewN ?_ _ | refine blk_drew ?_ | refine blk_alloc ?_ _)); exact BK299.out) hb)
      have n3_ := Aside0.mk (blk_below (g := gb300) (o := .cells #[.string a2_0, .int .i64 a2_1, .int .i64 a2_2] 49 (0, 0)) (by (with_reducible repeat (first | refine blk_drewN ?_ _ | refine blk_drew ?_ | refine blk_alloc ?_ _)); exact BK300.out) hb)
      have n4_ := Aside0.mk (below_step (by repeat (first | (with_reducible first | exact HB.out | apply below_alloc | apply pw_below_drewN | apply below_drew1 | refine below_set ?_ GE299.out | refine below_set ?_ GE300.out) | exact HB.out)) hb)
      clear HO310
      clear HO313
      clear BK299
      clear BK300
      clear HB
      have HO310 := n0_
      have HO313 := n1_
      have BK299 := n2_
      have BK300 := n3_
      have HB := n4_
      clear n0_ n1_ n2_ n3_ n4_
      (try clear hb)
      (try clear hb2)
      (try clear hk)
      (try clear hi)
      refine hK.out _ _ ⟨(blk_cell BK299.out 0).trans rfl, (blk_cell BK299.out 1).trans rfl, (blk_cell BK299.out 2).trans rfl, (blk_cell BK299.out 3).trans rfl, (blk_cell BK300.out 0).trans rfl, (blk_cell BK300.out 1).trans rfl, (blk_cell BK300.out 2).trans rfl⟩ (fun hHeld => ?_)
      clear hK K
      refine norm_ (a' := ?_) ?_ ?_
      rotate_left
      ·show Act.put _ (some 54) _ = _
       simp only [Act.put, List.setIfInBounds_toArray, List.set_cons_zero, List.set_cons_succ, i64_w, i32_w]
       rfl
      refine pure_ (i := 14) (N := some 13) (v := ?_) (a' := ?_) #[true, true, true, true, true, true, true, true, true, true, true, true, true, true, true, false] rfl rfl (any_of HT_.out (by kernel_rfl)) (fun _ _ _ h => h) (Or.inl ⟨by rfl, ?_⟩) ?_ ?_
      rotate_left
      ·intro w'
       go_simp
       with_reducible rfl
      rotate_left
      ·simp only [Act.put, List.setIfInBounds_toArray, List.set_cons_zero, List.set_cons_succ, i64_w, i32_w]
       rfl
      refine pure_ (i := 15) (N := some 14) (v := ?_) (a' := ?_) #[true, true, true, true, true, true, true, true, true, true, true, true, true, true, true, true] rfl rfl (any_of HT_.out (by kernel_rfl)) (fun _ _ _ h => h) (Or.inl ⟨by rfl, ?_⟩) ?_ ?_
      rotate_left
      ·intro w'
       go_simp
       with_reducible rfl
      rotate_left
      ·simp only [Act.put, List.setIfInBounds_toArray, List.set_cons_zero, List.set_cons_succ, i64_w, i32_w]
       rfl
      refine done_ (done_of HT_.out (by kernel_rfl)) ?_
      go_upto_region 6 with (fail)
      go_cut [80] (fun v80 wc => ∃ (kq : Nat) (x80_48 : Bool), v80 = .bool x80_48 ∧ Aside0 (assessorlaw51_DeadlinesExtends.j1 kq a3 a4 a5 t304 t314 x80_48 a0_0 a0_1 a0_2 l0_3 a2_0 a2_1 a2_2 = some r) ∧ Aside0 (kq ≤ kj8) ∧ Aside0 (wc.heap[gb299]? = some (.cells #[.int .i64 a0_0, .int .i64 a0_1, .bool a0_2, (.slice A0_3 l0_3.length c0_3)] 24 (0, 0))) ∧ Aside0 (wc.heap[gb300]? = some (.cells #[.string a2_0, .int .i64 a2_1, .int .i64 a2_2] 49 (0, 0))) ∧ Aside0 (Below w.heap.size w wc))
      case first =>
       have H := HC49.out
       clear HC49
       by_cases c60 : t304 < a0_0
       ·rw [if_pos c60] at H
        have c60b0 : decide (t304 < a0_0) = true := decide_eq_true c60
        clear c60
        (first | rw [c60b0] | (simp only [i64_w, i32_w]; rw [c60b0]) | skip)
        have H' := Aside0.mk H
        clear H
        have hnb61 := NB299_300.out
        have hnc61 := NB300_299.out
        have hcz62_0 : w59.cell? ⟨gb299, 0, none⟩ = some (.int .i64 a0_0) := (blk_cell BK299.out 0).trans rfl
        have hcz62_1 : w59.cell? ⟨gb299, 1, none⟩ = some (.int .i64 a0_1) := (blk_cell BK299.out 1).trans rfl
        have hcz62_2 : w59.cell? ⟨gb299, 2, none⟩ = some (.bool a0_2) := (blk_cell BK299.out 2).trans rfl
        have hcz62_3 : w59.cell? ⟨gb299, 3, none⟩ = some (.slice A0_3 l0_3.length c0_3) := (blk_cell BK299.out 3).trans rfl
        have hfz62_0 := blk_frozen BK299.out 0
        have hfz62_1 := blk_frozen BK299.out 1
        have hfz62_2 := blk_frozen BK299.out 2
        have hfz62_3 := blk_frozen BK299.out 3
        go_wp2
        go_meet
        case rel => exact ⟨_, (true), (by first | rfl | (simp; done) | (simp [*]; done)), H', ⟨by have := HJ8.out; first | omega | exact Nat.le_refl _⟩, ⟨by (with_reducible repeat (first | refine blk_drewN ?_ _ | refine blk_drew ?_ | refine blk_alloc ?_ _)); exact BK299.out⟩, ⟨by (with_reducible repeat (first | refine blk_drewN ?_ _ | refine blk_drew ?_ | refine blk_alloc ?_ _)); exact BK300.out⟩, ⟨by repeat (first | (with_reducible first | exact HB.out | apply below_alloc | apply pw_below_drewN | apply below_drew1 | refine below_set ?_ GE299.out | refine below_set ?_ GE300.out) | exact HB.out)⟩⟩
       ·rw [if_neg c60] at H
        have c60b0 : decide (t304 < a0_0) = false := decide_eq_false c60
        clear c60
        (first | rw [c60b0] | (simp only [i64_w, i32_w]; rw [c60b0]) | skip)
        by_cases c63 : t314 < t304
        ·rw [if_pos c63] at H
         have c63b0 : decide (t314 < t304) = true := decide_eq_true c63
         clear c63
         have H' := Aside0.mk H
         clear H
         have hnb64 := NB299_300.out
         have hnc64 := NB300_299.out
         have hcz65_0 : w59.cell? ⟨gb299, 0, none⟩ = some (.int .i64 a0_0) := (blk_cell BK299.out 0).trans rfl
         have hcz65_1 : w59.cell? ⟨gb299, 1, none⟩ = some (.int .i64 a0_1) := (blk_cell BK299.out 1).trans rfl
         have hcz65_2 : w59.cell? ⟨gb299, 2, none⟩ = some (.bool a0_2) := (blk_cell BK299.out 2).trans rfl
         have hcz65_3 : w59.cell? ⟨gb299, 3, none⟩ = some (.slice A0_3 l0_3.length c0_3) := (blk_cell BK299.out 3).trans rfl
         have hfz65_0 := blk_frozen BK299.out 0
         have hfz65_1 := blk_frozen BK299.out 1
         have hfz65_2 := blk_frozen BK299.out 2
         have hfz65_3 := blk_frozen BK299.out 3
         go_wp2
         go_meet
         case rel => exact ⟨_, (true), (by first | rfl | (simp; done) | (simp [*]; done)), H', ⟨by have := HJ8.out; first | omega | exact Nat.le_refl _⟩, ⟨by (with_reducible repeat (first | refine blk_drewN ?_ _ | refine blk_drew ?_ | refine blk_alloc ?_ _)); exact BK299.out⟩, ⟨by (with_reducible repeat (first | refine blk_drewN ?_ _ | refine blk_drew ?_ | refine blk_alloc ?_ _)); exact BK300.out⟩, ⟨by repeat (first | (with_reducible first | exact HB.out | apply below_alloc | apply pw_below_drewN | apply below_drew1 | refine below_set ?_ GE299.out | refine below_set ?_ GE300.out) | exact HB.out)⟩⟩
        ·rw [if_neg c63] at H
         have c63b0 : decide (t314 < t304) = false := decide_eq_false c63
         clear c63
         by_cases c66 : a2_0.toList = a3.toList
         ·rw [if_pos c66] at H
          have c66b0 : (a2_0.toList == a3.toList) = true := beq_iff_eq.mpr c66
          have c66b1 : (a2_0.toList != a3.toList) = false := bne_eq_false_iff_eq.mpr c66
          clear c66
          by_cases c67 : a2_2 > a4
          ·rw [if_pos c67] at H
           have c67b0 : decide (a4 < a2_2) = true := decide_eq_true c67
           clear c67
           have H' := Aside0.mk H
           clear H
           have hnb68 := NB299_300.out
           have hnc68 := NB300_299.out
           have hcz69_0 : w59.cell? ⟨gb299, 0, none⟩ = some (.int .i64 a0_0) := (blk_cell BK299.out 0).trans rfl
           have hcz69_1 : w59.cell? ⟨gb299, 1, none⟩ = some (.int .i64 a0_1) := (blk_cell BK299.out 1).trans rfl
           have hcz69_2 : w59.cell? ⟨gb299, 2, none⟩ = some (.bool a0_2) := (blk_cell BK299.out 2).trans rfl
           have hcz69_3 : w59.cell? ⟨gb299, 3, none⟩ = some (.slice A0_3 l0_3.length c0_3) := (blk_cell BK299.out 3).trans rfl
           have hfz69_0 := blk_frozen BK299.out 0
           have hfz69_1 := blk_frozen BK299.out 1
           have hfz69_2 := blk_frozen BK299.out 2
           have hfz69_3 := blk_frozen BK299.out 3
           have hcz70_0 : w59.cell? ⟨gb300, 0, none⟩ = some (.string a2_0) := (blk_cell BK300.out 0).trans rfl
           have hcz70_1 : w59.cell? ⟨gb300, 1, none⟩ = some (.int .i64 a2_1) := (blk_cell BK300.out 1).trans rfl
           have hcz70_2 : w59.cell? ⟨gb300, 2, none⟩ = some (.int .i64 a2_2) := (blk_cell BK300.out 2).trans rfl
           have hfz70_0 := blk_frozen BK300.out 0
           have hfz70_1 := blk_frozen BK300.out 1
           have hfz70_2 := blk_frozen BK300.out 2
           go_wp2
           go_meet
           case rel => exact ⟨_, ((t304 != t314)), (by first | rfl | (simp; done) | (simp [*]; done)), H', ⟨by have := HJ8.out; first | omega | exact Nat.le_refl _⟩, ⟨by (with_reducible repeat (first | refine blk_drewN ?_ _ | refine blk_drew ?_ | refine blk_alloc ?_ _)); exact BK299.out⟩, ⟨by (with_reducible repeat (first | refine blk_drewN ?_ _ | refine blk_drew ?_ | refine blk_alloc ?_ _)); exact BK300.out⟩, ⟨by repeat (first | (with_reducible first | exact HB.out | apply below_alloc | apply pw_below_drewN | apply below_drew1 | refine below_set ?_ GE299.out | refine below_set ?_ GE300.out) | exact HB.out)⟩⟩
          ·rw [if_neg c67] at H
           have c67b0 : decide (a4 < a2_2) = false := decide_eq_false c67
           clear c67
           have H' := Aside0.mk H
           clear H
           have hnb71 := NB299_300.out
           have hnc71 := NB300_299.out
           have hcz72_0 : w59.cell? ⟨gb299, 0, none⟩ = some (.int .i64 a0_0) := (blk_cell BK299.out 0).trans rfl
           have hcz72_1 : w59.cell? ⟨gb299, 1, none⟩ = some (.int .i64 a0_1) := (blk_cell BK299.out 1).trans rfl
           have hcz72_2 : w59.cell? ⟨gb299, 2, none⟩ = some (.bool a0_2) := (blk_cell BK299.out 2).trans rfl
           have hcz72_3 : w59.cell? ⟨gb299, 3, none⟩ = some (.slice A0_3 l0_3.length c0_3) := (blk_cell BK299.out 3).trans rfl
           have hfz72_0 := blk_frozen BK299.out 0
           have hfz72_1 := blk_frozen BK299.out 1
           have hfz72_2 := blk_frozen BK299.out 2
           have hfz72_3 := blk_frozen BK299.out 3
           have hcz73_0 : w59.cell? ⟨gb300, 0, none⟩ = some (.string a2_0) := (blk_cell BK300.out 0).trans rfl
           have hcz73_1 : w59.cell? ⟨gb300, 1, none⟩ = some (.int .i64 a2_1) := (blk_cell BK300.out 1).trans rfl
           have hcz73_2 : w59.cell? ⟨gb300, 2, none⟩ = some (.int .i64 a2_2) := (blk_cell BK300.out 2).trans rfl
           have hfz73_0 := blk_frozen BK300.out 0
           have hfz73_1 := blk_frozen BK300.out 1
           have hfz73_2 := blk_frozen BK300.out 2
           go_wp2
           go_meet
           case rel => exact ⟨_, (false), (by first | rfl | (simp; done) | (simp [*]; done)), H', ⟨by have := HJ8.out; first | omega | exact Nat.le_refl _⟩, ⟨by (with_reducible repeat (first | refine blk_drewN ?_ _ | refine blk_drew ?_ | refine blk_alloc ?_ _)); exact BK299.out⟩, ⟨by (with_reducible repeat (first | refine blk_drewN ?_ _ | refine blk_drew ?_ | refine blk_alloc ?_ _)); exact BK300.out⟩, ⟨by repeat (first | (with_reducible first | exact HB.out | apply below_alloc | apply pw_below_drewN | apply below_drew1 | refine below_set ?_ GE299.out | refine below_set ?_ GE300.out) | exact HB.out)⟩⟩
         ·rw [if_neg c66] at H
          have c66b0 : (a2_0.toList == a3.toList) = false := beq_eq_false_iff_ne.mpr c66
          have c66b1 : (a2_0.toList != a3.toList) = true := bne_iff_ne.mpr c66
          have H' := Aside0.mk H
          clear H
          have hnb74 := NB299_300.out
          have hnc74 := NB300_299.out
          have hcz75_0 : w59.cell? ⟨gb299, 0, none⟩ = some (.int .i64 a0_0) := (blk_cell BK299.out 0).trans rfl
          have hcz75_1 : w59.cell? ⟨gb299, 1, none⟩ = some (.int .i64 a0_1) := (blk_cell BK299.out 1).trans rfl
          have hcz75_2 : w59.cell? ⟨gb299, 2, none⟩ = some (.bool a0_2) := (blk_cell BK299.out 2).trans rfl
          have hcz75_3 : w59.cell? ⟨gb299, 3, none⟩ = some (.slice A0_3 l0_3.length c0_3) := (blk_cell BK299.out 3).trans rfl
          have hfz75_0 := blk_frozen BK299.out 0
          have hfz75_1 := blk_frozen BK299.out 1
          have hfz75_2 := blk_frozen BK299.out 2
          have hfz75_3 := blk_frozen BK299.out 3
          have hcz76_0 : w59.cell? ⟨gb300, 0, none⟩ = some (.string a2_0) := (blk_cell BK300.out 0).trans rfl
          have hcz76_1 : w59.cell? ⟨gb300, 1, none⟩ = some (.int .i64 a2_1) := (blk_cell BK300.out 1).trans rfl
          have hcz76_2 : w59.cell? ⟨gb300, 2, none⟩ = some (.int .i64 a2_2) := (blk_cell BK300.out 2).trans rfl
          have hfz76_0 := blk_frozen BK300.out 0
          have hfz76_1 := blk_frozen BK300.out 1
          have hfz76_2 := blk_frozen BK300.out 2
          go_wp2
          go_meet
          case rel => exact ⟨_, ((t304 != t314)), (by first | rfl | (simp; done) | (simp [*]; done)), H', ⟨by have := HJ8.out; first | omega | exact Nat.le_refl _⟩, ⟨by (with_reducible repeat (first | refine blk_drewN ?_ _ | refine blk_drew ?_ | refine blk_alloc ?_ _)); exact BK299.out⟩, ⟨by (with_reducible repeat (first | refine blk_drewN ?_ _ | refine blk_drew ?_ | refine blk_alloc ?_ _)); exact BK300.out⟩, ⟨by repeat (first | (with_reducible first | exact HB.out | apply below_alloc | apply pw_below_drewN | apply below_drew1 | refine below_set ?_ GE299.out | refine below_set ?_ GE300.out) | exact HB.out)⟩⟩
      case rest =>
       clear HC49
       try clear c1
       try clear c2
       try clear p2
       try clear c3
       try clear c4
       try clear c6
       try clear c7
       try clear c17
       try clear c23
       try clear c47
       try clear c60
       try clear c60b0
       try clear c61
       try clear c63
       try clear c63b0
       try clear c64
       try clear c66
       try clear c66b0
       try clear c66b1
       try clear c67
       try clear c67b0
       try clear c68
       try clear c71
       try clear c74
       try clear hcz62_0
       try clear hcz62_1
       try clear hcz62_2
       try clear hcz62_3
       try clear hcz65_0
       try clear hcz65_1
       try clear hcz65_2
       try clear hcz65_3
       try clear hcz69_0
       try clear hcz69_1
       try clear hcz69_2
       try clear hcz69_3
       try clear hcz70_0
       try clear hcz70_1
       try clear hcz70_2
       try clear hcz72_0
       try clear hcz72_1
       try clear hcz72_2
       try clear hcz72_3
       try clear hcz73_0
       try clear hcz73_1
       try clear hcz73_2
       try clear hcz75_0
       try clear hcz75_1
       try clear hcz75_2
       try clear hcz75_3
       try clear hcz76_0
       try clear hcz76_1
       try clear hcz76_2
       try clear hfz62_0
       try clear hfz62_1
       try clear hfz62_2
       try clear hfz62_3
       try clear hfz65_0
       try clear hfz65_1
       try clear hfz65_2
       try clear hfz65_3
       try clear hfz69_0
       try clear hfz69_1
       try clear hfz69_2
       try clear hfz69_3
       try clear hfz70_0
       try clear hfz70_1
       try clear hfz70_2
       try clear hfz72_0
       try clear hfz72_1
       try clear hfz72_2
       try clear hfz72_3
       try clear hfz73_0
       try clear hfz73_1
       try clear hfz73_2
       try clear hfz75_0
       try clear hfz75_1
       try clear hfz75_2
       try clear hfz75_3
       try clear hfz76_0
       try clear hfz76_1
       try clear hfz76_2
       obtain ⟨kq, x80_48, rfl, HA, HJ48, BK299, BK300, HB⟩ := hcut
       cases kq with
       | zero => exact absurd HA.out (by simp [assessorlaw51_DeadlinesExtends.j1])
       | succ kj48 =>
        have H := HA.out
        clear HA
        simp only [assessorlaw51_DeadlinesExtends.j1] at H
        by_cases c77 : x80_48 = true
        ·subst c77
         have H1 : (none) = some r := by rw [if_pos rfl] at H; exact H
         clear H
         have H := H1
         clear H1
         exact absurd H (by simp)
        ·replace c77 := Bool.eq_false_iff.mpr c77
         subst c77
         have H1 : (if a2_0.toList = a3.toList then (if a2_2 ≤ a4 then (if a2_1 ≥ 0 then (if a2_1 ≤ 1099511627776 then (if t314 < a2_1 then (assessorlaw51_DeadlinesExtends.j2 kj48 a4 a5 t304 true a0_0 a0_1 a0_2 l0_3) else ((deadlines_Late.f kj48 a0_0 a0_1 a0_2 l0_3 t314 t314).bind fun t315 => (assessorlaw51_DeadlinesExtends.j2 kj48 a4 a5 t304 (t315 != 0) a0_0 a0_1 a0_2 l0_3))) else ((deadlines_Late.f kj48 a0_0 a0_1 a0_2 l0_3 t314 t314).bind fun t316 => (assessorlaw51_DeadlinesExtends.j2 kj48 a4 a5 t304 (t316 != 0) a0_0 a0_1 a0_2 l0_3))) else ((deadlines_Late.f kj48 a0_0 a0_1 a0_2 l0_3 t314 t314).bind fun t317 => (assessorlaw51_DeadlinesExtends.j2 kj48 a4 a5 t304 (t317 != 0) a0_0 a0_1 a0_2 l0_3))) else ((deadlines_Late.f kj48 a0_0 a0_1 a0_2 l0_3 t314 t314).bind fun t318 => (assessorlaw51_DeadlinesExtends.j2 kj48 a4 a5 t304 (t318 != 0) a0_0 a0_1 a0_2 l0_3))) else ((deadlines_Late.f kj48 a0_0 a0_1 a0_2 l0_3 t314 t314).bind fun t319 => (assessorlaw51_DeadlinesExtends.j2 kj48 a4 a5 t304 (t319 != 0) a0_0 a0_1 a0_2 l0_3))) = some r := by rw [if_neg (show ¬ (false = true) by decide)] at H; exact H
         clear H
         have H := H1
         clear H1
         have HC78 := Aside0.mk H
         clear H
         go_upto_region 8 with (fail)
         go_cut [113] (fun v113 wc => ∃ (kq : Nat) (x113_77 : Bool), v113 = .bool x113_77 ∧ Aside0 (assessorlaw51_DeadlinesExtends.j2 kq a4 a5 t304 x113_77 a0_0 a0_1 a0_2 l0_3 = some r) ∧ Aside0 (kq ≤ kj48) ∧ Aside0 (wc.heap[gb299]? = some (.cells #[.int .i64 a0_0, .int .i64 a0_1, .bool a0_2, (.slice A0_3 l0_3.length c0_3)] 24 (0, 0))) ∧ Aside0 (wc.heap[gb300]? = some (.cells #[.string a2_0, .int .i64 a2_1, .int .i64 a2_2] 49 (0, 0))) ∧ Aside0 (Below w.heap.size w wc))
         case first =>
          have H := HC78.out
          clear HC78
          by_cases c79 : a2_0.toList = a3.toList
          ·rw [if_pos c79] at H
           have c79b0 : (a2_0.toList == a3.toList) = true := beq_iff_eq.mpr c79
           have c79b1 : (a2_0.toList != a3.toList) = false := bne_eq_false_iff_eq.mpr c79
           clear c79
           (first | rw [c79b0] | (simp only [i64_w, i32_w]; rw [c79b0]) | skip)
           by_cases c80 : a2_2 ≤ a4
           ·rw [if_pos c80] at H
            have c80b0 : decide (a2_2 ≤ a4) = true := decide_eq_true c80
            clear c80
            by_cases c81 : a2_1 ≥ 0
            ·rw [if_pos c81] at H
             have c81b0 : decide (0 ≤ a2_1) = true := decide_eq_true c81
             clear c81
             by_cases c82 : a2_1 ≤ 1099511627776
             ·rw [if_pos c82] at H
              have c82b0 : decide (a2_1 ≤ 1099511627776) = true := decide_eq_true c82
              clear c82
              by_cases c83 : t314 < a2_1
              ·rw [if_pos c83] at H
               have c83b0 : decide (t314 < a2_1) = true := decide_eq_true c83
               clear c83
               have H' := Aside0.mk H
               clear H
               have hnb84 := NB300_299.out
               have hnc84 := NB299_300.out
               have hcz85_0 : wc.cell? ⟨gb300, 0, none⟩ = some (.string a2_0) := (blk_cell BK300.out 0).trans rfl
               have hcz85_1 : wc.cell? ⟨gb300, 1, none⟩ = some (.int .i64 a2_1) := (blk_cell BK300.out 1).trans rfl
               have hcz85_2 : wc.cell? ⟨gb300, 2, none⟩ = some (.int .i64 a2_2) := (blk_cell BK300.out 2).trans rfl
               have hfz85_0 := blk_frozen BK300.out 0
               have hfz85_1 := blk_frozen BK300.out 1
               have hfz85_2 := blk_frozen BK300.out 2
               go_wp2
               go_meet
               case rel => exact ⟨_, (true), (by first | rfl | (simp; done) | (simp [*]; done)), H', ⟨by have := HJ8.out; have := HJ48.out; first | omega | exact Nat.le_refl _⟩, ⟨by (with_reducible repeat (first | refine blk_drewN ?_ _ | refine blk_drew ?_ | refine blk_alloc ?_ _)); exact BK299.out⟩, ⟨by (with_reducible repeat (first | refine blk_drewN ?_ _ | refine blk_drew ?_ | refine blk_alloc ?_ _)); exact BK300.out⟩, ⟨by repeat (first | (with_reducible first | exact HB.out | apply below_alloc | apply pw_below_drewN | apply below_drew1 | refine below_set ?_ GE299.out | refine below_set ?_ GE300.out) | exact HB.out)⟩⟩
              ·rw [if_neg c83] at H
               have c83b0 : decide (t314 < a2_1) = false := decide_eq_false c83
               clear c83
               replace H := Option.bind_eq_some_iff.mp H
               obtain ⟨t315, A860, H⟩ := H
               replace H : (assessorlaw51_DeadlinesExtends.j2 kj48 a4 a5 t304 (t315 != 0) a0_0 a0_1 a0_2 l0_3) = some r := H
               have A86 := Aside0.mk A860
               clear A860
               have H' := Aside0.mk H
               clear H
               have hnb87 := NB300_299.out
               have hnc87 := NB299_300.out
               have hcz88_0 : wc.cell? ⟨gb300, 0, none⟩ = some (.string a2_0) := (blk_cell BK300.out 0).trans rfl
               have hcz88_1 : wc.cell? ⟨gb300, 1, none⟩ = some (.int .i64 a2_1) := (blk_cell BK300.out 1).trans rfl
               have hcz88_2 : wc.cell? ⟨gb300, 2, none⟩ = some (.int .i64 a2_2) := (blk_cell BK300.out 2).trans rfl
               have hfz88_0 := blk_frozen BK300.out 0
               have hfz88_1 := blk_frozen BK300.out 1
               have hfz88_2 := blk_frozen BK300.out 2
               have hcz89_0 : wc.cell? ⟨gb299, 0, none⟩ = some (.int .i64 a0_0) := (blk_cell BK299.out 0).trans rfl
               have hcz89_1 : wc.cell? ⟨gb299, 1, none⟩ = some (.int .i64 a0_1) := (blk_cell BK299.out 1).trans rfl
               have hcz89_2 : wc.cell? ⟨gb299, 2, none⟩ = some (.bool a0_2) := (blk_cell BK299.out 2).trans rfl
               have hcz89_3 : wc.cell? ⟨gb299, 3, none⟩ = some (.slice A0_3 l0_3.length c0_3) := (blk_cell BK299.out 3).trans rfl
               have hfz89_0 := blk_frozen BK299.out 0
               have hfz89_1 := blk_frozen BK299.out 1
               have hfz89_2 := blk_frozen BK299.out 2
               have hfz89_3 := blk_frozen BK299.out 3
               go_wp2_with (first | (go_at_call 19; (with_reducible refine (deadlines_Late.calls kj48 a0_0 a0_1 a0_2 _ _ l0_3 t314 t314 t315 _ ?side1 ?side2 A86.out).mono ?_); (case side1 => repeat (first | exact (Kd.C_below HR0_3.out HB.out) | (with_reducible refine Kd.C_alloc ?_ _) | (with_reducible refine Kd.C_drewN ?_ _) | (with_reducible refine Kd.C_drew ?_))); (case side2 => exact HC0_3.out); rintro e w90 ⟨rfl, hb⟩; have n0_ := Aside0.mk (blk_below (g := gb299) (o := .cells #[.int .i64 a0_0, .int .i64 a0_1, .bool a0_2, .slice A0_3 l0_3.length c0_3] 24 (0, 0)) (by (with_reducible repeat (first | refine blk_drewN ?_ _ | refine blk_drew ?_ | refine blk_alloc ?_ _)); exact BK299.out) hb); have n1_ := Aside0.mk (blk_below (g := gb300) (o := .cells #[.string a2_0, .int .i64 a2_1, .int .i64 a2_2] 49 (0, 0)) (by (with_reducible repeat (first | refine blk_drewN ?_ _ | refine blk_drew ?_ | refine blk_alloc ?_ _)); exact BK300.out) hb); have n2_ := Aside0.mk (below_step (by repeat (first | (with_reducible first | exact HB.out | apply below_alloc | apply pw_below_drewN | apply below_drew1 | refine below_set ?_ GE299.out | refine below_set ?_ GE300.out) | exact HB.out)) hb); clear BK299; clear BK300; clear HB; have BK299 := n0_; have BK300 := n1_; have HB := n2_; clear n0_ n1_ n2_; (try clear hb); (try clear hb2); (try clear hk); (try clear hi)))
               go_meet
               case rel => exact ⟨_, ((t315 != 0)), (by first | rfl | (simp; done) | (simp [*]; done)), H', ⟨by have := HJ8.out; have := HJ48.out; first | omega | exact Nat.le_refl _⟩, ⟨by (with_reducible repeat (first | refine blk_drewN ?_ _ | refine blk_drew ?_ | refine blk_alloc ?_ _)); exact BK299.out⟩, ⟨by (with_reducible repeat (first | refine blk_drewN ?_ _ | refine blk_drew ?_ | refine blk_alloc ?_ _)); exact BK300.out⟩, ⟨by repeat (first | (with_reducible first | exact HB.out | apply below_alloc | apply pw_below_drewN | apply below_drew1 | refine below_set ?_ GE299.out | refine below_set ?_ GE300.out) | exact HB.out)⟩⟩
             ·rw [if_neg c82] at H
              have c82b0 : decide (a2_1 ≤ 1099511627776) = false := decide_eq_false c82
              clear c82
              replace H := Option.bind_eq_some_iff.mp H
              obtain ⟨t316, A910, H⟩ := H
              replace H : (assessorlaw51_DeadlinesExtends.j2 kj48 a4 a5 t304 (t316 != 0) a0_0 a0_1 a0_2 l0_3) = some r := H
              have A91 := Aside0.mk A910
              clear A910
              have H' := Aside0.mk H
              clear H
              have hnb92 := NB300_299.out
              have hnc92 := NB299_300.out
              have hcz93_0 : wc.cell? ⟨gb300, 0, none⟩ = some (.string a2_0) := (blk_cell BK300.out 0).trans rfl
              have hcz93_1 : wc.cell? ⟨gb300, 1, none⟩ = some (.int .i64 a2_1) := (blk_cell BK300.out 1).trans rfl
              have hcz93_2 : wc.cell? ⟨gb300, 2, none⟩ = some (.int .i64 a2_2) := (blk_cell BK300.out 2).trans rfl
              have hfz93_0 := blk_frozen BK300.out 0
              have hfz93_1 := blk_frozen BK300.out 1
              have hfz93_2 := blk_frozen BK300.out 2
              have hcz94_0 : wc.cell? ⟨gb299, 0, none⟩ = some (.int .i64 a0_0) := (blk_cell BK299.out 0).trans rfl
              have hcz94_1 : wc.cell? ⟨gb299, 1, none⟩ = some (.int .i64 a0_1) := (blk_cell BK299.out 1).trans rfl
              have hcz94_2 : wc.cell? ⟨gb299, 2, none⟩ = some (.bool a0_2) := (blk_cell BK299.out 2).trans rfl
              have hcz94_3 : wc.cell? ⟨gb299, 3, none⟩ = some (.slice A0_3 l0_3.length c0_3) := (blk_cell BK299.out 3).trans rfl
              have hfz94_0 := blk_frozen BK299.out 0
              have hfz94_1 := blk_frozen BK299.out 1
              have hfz94_2 := blk_frozen BK299.out 2
              have hfz94_3 := blk_frozen BK299.out 3
              go_wp2_with (first | (go_at_call 19; (with_reducible refine (deadlines_Late.calls kj48 a0_0 a0_1 a0_2 _ _ l0_3 t314 t314 t316 _ ?side1 ?side2 A91.out).mono ?_); (case side1 => repeat (first | exact (Kd.C_below HR0_3.out HB.out) | (with_reducible refine Kd.C_alloc ?_ _) | (with_reducible refine Kd.C_drewN ?_ _) | (with_reducible refine Kd.C_drew ?_))); (case side2 => exact HC0_3.out); rintro e w95 ⟨rfl, hb⟩; have n0_ := Aside0.mk (blk_below (g := gb299) (o := .cells #[.int .i64 a0_0, .int .i64 a0_1, .bool a0_2, .slice A0_3 l0_3.length c0_3] 24 (0, 0)) (by (with_reducible repeat (first | refine blk_drewN ?_ _ | refine blk_drew ?_ | refine blk_alloc ?_ _)); exact BK299.out) hb); have n1_ := Aside0.mk (blk_below (g := gb300) (o := .cells #[.string a2_0, .int .i64 a2_1, .int .i64 a2_2] 49 (0, 0)) (by (with_reducible repeat (first | refine blk_drewN ?_ _ | refine blk_drew ?_ | refine blk_alloc ?_ _)); exact BK300.out) hb); have n2_ := Aside0.mk (below_step (by repeat (first | (with_reducible first | exact HB.out | apply below_alloc | apply pw_below_drewN | apply below_drew1 | refine below_set ?_ GE299.out | refine below_set ?_ GE300.out) | exact HB.out)) hb); clear BK299; clear BK300; clear HB; have BK299 := n0_; have BK300 := n1_; have HB := n2_; clear n0_ n1_ n2_; (try clear hb); (try clear hb2); (try clear hk); (try clear hi)))
              go_meet
              case rel => exact ⟨_, ((t316 != 0)), (by first | rfl | (simp; done) | (simp [*]; done)), H', ⟨by have := HJ8.out; have := HJ48.out; first | omega | exact Nat.le_refl _⟩, ⟨by (with_reducible repeat (first | refine blk_drewN ?_ _ | refine blk_drew ?_ | refine blk_alloc ?_ _)); exact BK299.out⟩, ⟨by (with_reducible repeat (first | refine blk_drewN ?_ _ | refine blk_drew ?_ | refine blk_alloc ?_ _)); exact BK300.out⟩, ⟨by repeat (first | (with_reducible first | exact HB.out | apply below_alloc | apply pw_below_drewN | apply below_drew1 | refine below_set ?_ GE299.out | refine below_set ?_ GE300.out) | exact HB.out)⟩⟩
            ·rw [if_neg c81] at H
             have c81b0 : decide (0 ≤ a2_1) = false := decide_eq_false c81
             clear c81
             replace H := Option.bind_eq_some_iff.mp H
             obtain ⟨t317, A960, H⟩ := H
             replace H : (assessorlaw51_DeadlinesExtends.j2 kj48 a4 a5 t304 (t317 != 0) a0_0 a0_1 a0_2 l0_3) = some r := H
             have A96 := Aside0.mk A960
             clear A960
             have H' := Aside0.mk H
             clear H
             have hnb97 := NB300_299.out
             have hnc97 := NB299_300.out
             have hcz98_0 : wc.cell? ⟨gb300, 0, none⟩ = some (.string a2_0) := (blk_cell BK300.out 0).trans rfl
             have hcz98_1 : wc.cell? ⟨gb300, 1, none⟩ = some (.int .i64 a2_1) := (blk_cell BK300.out 1).trans rfl
             have hcz98_2 : wc.cell? ⟨gb300, 2, none⟩ = some (.int .i64 a2_2) := (blk_cell BK300.out 2).trans rfl
             have hfz98_0 := blk_frozen BK300.out 0
             have hfz98_1 := blk_frozen BK300.out 1
             have hfz98_2 := blk_frozen BK300.out 2
             have hcz99_0 : wc.cell? ⟨gb299, 0, none⟩ = some (.int .i64 a0_0) := (blk_cell BK299.out 0).trans rfl
             have hcz99_1 : wc.cell? ⟨gb299, 1, none⟩ = some (.int .i64 a0_1) := (blk_cell BK299.out 1).trans rfl
             have hcz99_2 : wc.cell? ⟨gb299, 2, none⟩ = some (.bool a0_2) := (blk_cell BK299.out 2).trans rfl
             have hcz99_3 : wc.cell? ⟨gb299, 3, none⟩ = some (.slice A0_3 l0_3.length c0_3) := (blk_cell BK299.out 3).trans rfl
             have hfz99_0 := blk_frozen BK299.out 0
             have hfz99_1 := blk_frozen BK299.out 1
             have hfz99_2 := blk_frozen BK299.out 2
             have hfz99_3 := blk_frozen BK299.out 3
             go_wp2_with (first | (go_at_call 19; (with_reducible refine (deadlines_Late.calls kj48 a0_0 a0_1 a0_2 _ _ l0_3 t314 t314 t317 _ ?side1 ?side2 A96.out).mono ?_); (case side1 => repeat (first | exact (Kd.C_below HR0_3.out HB.out) | (with_reducible refine Kd.C_alloc ?_ _) | (with_reducible refine Kd.C_drewN ?_ _) | (with_reducible refine Kd.C_drew ?_))); (case side2 => exact HC0_3.out); rintro e w100 ⟨rfl, hb⟩; have n0_ := Aside0.mk (blk_below (g := gb299) (o := .cells #[.int .i64 a0_0, .int .i64 a0_1, .bool a0_2, .slice A0_3 l0_3.length c0_3] 24 (0, 0)) (by (with_reducible repeat (first | refine blk_drewN ?_ _ | refine blk_drew ?_ | refine blk_alloc ?_ _)); exact BK299.out) hb); have n1_ := Aside0.mk (blk_below (g := gb300) (o := .cells #[.string a2_0, .int .i64 a2_1, .int .i64 a2_2] 49 (0, 0)) (by (with_reducible repeat (first | refine blk_drewN ?_ _ | refine blk_drew ?_ | refine blk_alloc ?_ _)); exact BK300.out) hb); have n2_ := Aside0.mk (below_step (by repeat (first | (with_reducible first | exact HB.out | apply below_alloc | apply pw_below_drewN | apply below_drew1 | refine below_set ?_ GE299.out | refine below_set ?_ GE300.out) | exact HB.out)) hb); clear BK299; clear BK300; clear HB; have BK299 := n0_; have BK300 := n1_; have HB := n2_; clear n0_ n1_ n2_; (try clear hb); (try clear hb2); (try clear hk); (try clear hi)))
             go_meet
             case rel => exact ⟨_, ((t317 != 0)), (by first | rfl | (simp; done) | (simp [*]; done)), H', ⟨by have := HJ8.out; have := HJ48.out; first | omega | exact Nat.le_refl _⟩, ⟨by (with_reducible repeat (first | refine blk_drewN ?_ _ | refine blk_drew ?_ | refine blk_alloc ?_ _)); exact BK299.out⟩, ⟨by (with_reducible repeat (first | refine blk_drewN ?_ _ | refine blk_drew ?_ | refine blk_alloc ?_ _)); exact BK300.out⟩, ⟨by repeat (first | (with_reducible first | exact HB.out | apply below_alloc | apply pw_below_drewN | apply below_drew1 | refine below_set ?_ GE299.out | refine below_set ?_ GE300.out) | exact HB.out)⟩⟩
           ·rw [if_neg c80] at H
            have c80b0 : decide (a2_2 ≤ a4) = false := decide_eq_false c80
            clear c80
            replace H := Option.bind_eq_some_iff.mp H
            obtain ⟨t318, A1010, H⟩ := H
            replace H : (assessorlaw51_DeadlinesExtends.j2 kj48 a4 a5 t304 (t318 != 0) a0_0 a0_1 a0_2 l0_3) = some r := H
            have A101 := Aside0.mk A1010
            clear A1010
            have H' := Aside0.mk H
            clear H
            have hnb102 := NB300_299.out
            have hnc102 := NB299_300.out
            have hcz103_0 : wc.cell? ⟨gb300, 0, none⟩ = some (.string a2_0) := (blk_cell BK300.out 0).trans rfl
            have hcz103_1 : wc.cell? ⟨gb300, 1, none⟩ = some (.int .i64 a2_1) := (blk_cell BK300.out 1).trans rfl
            have hcz103_2 : wc.cell? ⟨gb300, 2, none⟩ = some (.int .i64 a2_2) := (blk_cell BK300.out 2).trans rfl
            have hfz103_0 := blk_frozen BK300.out 0
            have hfz103_1 := blk_frozen BK300.out 1
            have hfz103_2 := blk_frozen BK300.out 2
            have hcz104_0 : wc.cell? ⟨gb299, 0, none⟩ = some (.int .i64 a0_0) := (blk_cell BK299.out 0).trans rfl
            have hcz104_1 : wc.cell? ⟨gb299, 1, none⟩ = some (.int .i64 a0_1) := (blk_cell BK299.out 1).trans rfl
            have hcz104_2 : wc.cell? ⟨gb299, 2, none⟩ = some (.bool a0_2) := (blk_cell BK299.out 2).trans rfl
            have hcz104_3 : wc.cell? ⟨gb299, 3, none⟩ = some (.slice A0_3 l0_3.length c0_3) := (blk_cell BK299.out 3).trans rfl
            have hfz104_0 := blk_frozen BK299.out 0
            have hfz104_1 := blk_frozen BK299.out 1
            have hfz104_2 := blk_frozen BK299.out 2
            have hfz104_3 := blk_frozen BK299.out 3
            go_wp2_with (first | (go_at_call 19; (with_reducible refine (deadlines_Late.calls kj48 a0_0 a0_1 a0_2 _ _ l0_3 t314 t314 t318 _ ?side1 ?side2 A101.out).mono ?_); (case side1 => repeat (first | exact (Kd.C_below HR0_3.out HB.out) | (with_reducible refine Kd.C_alloc ?_ _) | (with_reducible refine Kd.C_drewN ?_ _) | (with_reducible refine Kd.C_drew ?_))); (case side2 => exact HC0_3.out); rintro e w105 ⟨rfl, hb⟩; have n0_ := Aside0.mk (blk_below (g := gb299) (o := .cells #[.int .i64 a0_0, .int .i64 a0_1, .bool a0_2, .slice A0_3 l0_3.length c0_3] 24 (0, 0)) (by (with_reducible repeat (first | refine blk_drewN ?_ _ | refine blk_drew ?_ | refine blk_alloc ?_ _)); exact BK299.out) hb); have n1_ := Aside0.mk (blk_below (g := gb300) (o := .cells #[.string a2_0, .int .i64 a2_1, .int .i64 a2_2] 49 (0, 0)) (by (with_reducible repeat (first | refine blk_drewN ?_ _ | refine blk_drew ?_ | refine blk_alloc ?_ _)); exact BK300.out) hb); have n2_ := Aside0.mk (below_step (by repeat (first | (with_reducible first | exact HB.out | apply below_alloc | apply pw_below_drewN | apply below_drew1 | refine below_set ?_ GE299.out | refine below_set ?_ GE300.out) | exact HB.out)) hb); clear BK299; clear BK300; clear HB; have BK299 := n0_; have BK300 := n1_; have HB := n2_; clear n0_ n1_ n2_; (try clear hb); (try clear hb2); (try clear hk); (try clear hi)))
            go_meet
            case rel => exact ⟨_, ((t318 != 0)), (by first | rfl | (simp; done) | (simp [*]; done)), H', ⟨by have := HJ8.out; have := HJ48.out; first | omega | exact Nat.le_refl _⟩, ⟨by (with_reducible repeat (first | refine blk_drewN ?_ _ | refine blk_drew ?_ | refine blk_alloc ?_ _)); exact BK299.out⟩, ⟨by (with_reducible repeat (first | refine blk_drewN ?_ _ | refine blk_drew ?_ | refine blk_alloc ?_ _)); exact BK300.out⟩, ⟨by repeat (first | (with_reducible first | exact HB.out | apply below_alloc | apply pw_below_drewN | apply below_drew1 | refine below_set ?_ GE299.out | refine below_set ?_ GE300.out) | exact HB.out)⟩⟩
          ·rw [if_neg c79] at H
           have c79b0 : (a2_0.toList == a3.toList) = false := beq_eq_false_iff_ne.mpr c79
           have c79b1 : (a2_0.toList != a3.toList) = true := bne_iff_ne.mpr c79
           (first | rw [c79b0] | (simp only [i64_w, i32_w]; rw [c79b0]) | skip)
           replace H := Option.bind_eq_some_iff.mp H
           obtain ⟨t319, A1060, H⟩ := H
           replace H : (assessorlaw51_DeadlinesExtends.j2 kj48 a4 a5 t304 (t319 != 0) a0_0 a0_1 a0_2 l0_3) = some r := H
           have A106 := Aside0.mk A1060
           clear A1060
           have H' := Aside0.mk H
           clear H
           have hnb107 := NB300_299.out
           have hnc107 := NB299_300.out
           have hcz108_0 : wc.cell? ⟨gb300, 0, none⟩ = some (.string a2_0) := (blk_cell BK300.out 0).trans rfl
           have hcz108_1 : wc.cell? ⟨gb300, 1, none⟩ = some (.int .i64 a2_1) := (blk_cell BK300.out 1).trans rfl
           have hcz108_2 : wc.cell? ⟨gb300, 2, none⟩ = some (.int .i64 a2_2) := (blk_cell BK300.out 2).trans rfl
           have hfz108_0 := blk_frozen BK300.out 0
           have hfz108_1 := blk_frozen BK300.out 1
           have hfz108_2 := blk_frozen BK300.out 2
           have hcz109_0 : wc.cell? ⟨gb299, 0, none⟩ = some (.int .i64 a0_0) := (blk_cell BK299.out 0).trans rfl
           have hcz109_1 : wc.cell? ⟨gb299, 1, none⟩ = some (.int .i64 a0_1) := (blk_cell BK299.out 1).trans rfl
           have hcz109_2 : wc.cell? ⟨gb299, 2, none⟩ = some (.bool a0_2) := (blk_cell BK299.out 2).trans rfl
           have hcz109_3 : wc.cell? ⟨gb299, 3, none⟩ = some (.slice A0_3 l0_3.length c0_3) := (blk_cell BK299.out 3).trans rfl
           have hfz109_0 := blk_frozen BK299.out 0
           have hfz109_1 := blk_frozen BK299.out 1
           have hfz109_2 := blk_frozen BK299.out 2
           have hfz109_3 := blk_frozen BK299.out 3
           go_wp2_with (first | (go_at_call 19; (with_reducible refine (deadlines_Late.calls kj48 a0_0 a0_1 a0_2 _ _ l0_3 t314 t314 t319 _ ?side1 ?side2 A106.out).mono ?_); (case side1 => repeat (first | exact (Kd.C_below HR0_3.out HB.out) | (with_reducible refine Kd.C_alloc ?_ _) | (with_reducible refine Kd.C_drewN ?_ _) | (with_reducible refine Kd.C_drew ?_))); (case side2 => exact HC0_3.out); rintro e w110 ⟨rfl, hb⟩; have n0_ := Aside0.mk (blk_below (g := gb299) (o := .cells #[.int .i64 a0_0, .int .i64 a0_1, .bool a0_2, .slice A0_3 l0_3.length c0_3] 24 (0, 0)) (by (with_reducible repeat (first | refine blk_drewN ?_ _ | refine blk_drew ?_ | refine blk_alloc ?_ _)); exact BK299.out) hb); have n1_ := Aside0.mk (blk_below (g := gb300) (o := .cells #[.string a2_0, .int .i64 a2_1, .int .i64 a2_2] 49 (0, 0)) (by (with_reducible repeat (first | refine blk_drewN ?_ _ | refine blk_drew ?_ | refine blk_alloc ?_ _)); exact BK300.out) hb); have n2_ := Aside0.mk (below_step (by repeat (first | (with_reducible first | exact HB.out | apply below_alloc | apply pw_below_drewN | apply below_drew1 | refine below_set ?_ GE299.out | refine below_set ?_ GE300.out) | exact HB.out)) hb); clear BK299; clear BK300; clear HB; have BK299 := n0_; have BK300 := n1_; have HB := n2_; clear n0_ n1_ n2_; (try clear hb); (try clear hb2); (try clear hk); (try clear hi)))
           go_meet
           case rel => exact ⟨_, ((t319 != 0)), (by first | rfl | (simp; done) | (simp [*]; done)), H', ⟨by have := HJ8.out; have := HJ48.out; first | omega | exact Nat.le_refl _⟩, ⟨by (with_reducible repeat (first | refine blk_drewN ?_ _ | refine blk_drew ?_ | refine blk_alloc ?_ _)); exact BK299.out⟩, ⟨by (with_reducible repeat (first | refine blk_drewN ?_ _ | refine blk_drew ?_ | refine blk_alloc ?_ _)); exact BK300.out⟩, ⟨by repeat (first | (with_reducible first | exact HB.out | apply below_alloc | apply pw_below_drewN | apply below_drew1 | refine below_set ?_ GE299.out | refine below_set ?_ GE300.out) | exact HB.out)⟩⟩
         case rest =>
          clear HC78
          try clear c1
          try clear c2
          try clear p2
          try clear c3
          try clear c4
          try clear c6
          try clear c7
          try clear c8
          try clear c9
          try clear c10
          try clear c17
          try clear c23
          try clear c47
          try clear c60
          try clear c60b0
          try clear c61
          try clear c63
          try clear c63b0
          try clear c64
          try clear c66
          try clear c66b0
          try clear c66b1
          try clear c67
          try clear c67b0
          try clear c68
          try clear c71
          try clear c74
          try clear c77
          try clear c79
          try clear c79b0
          try clear c79b1
          try clear c80
          try clear c80b0
          try clear c81
          try clear c81b0
          try clear c82
          try clear c82b0
          try clear c83
          try clear c83b0
          try clear c84
          try clear c87
          try clear c92
          try clear c97
          try clear c102
          try clear c107
          try clear hcz103_0
          try clear hcz103_1
          try clear hcz103_2
          try clear hcz104_0
          try clear hcz104_1
          try clear hcz104_2
          try clear hcz104_3
          try clear hcz108_0
          try clear hcz108_1
          try clear hcz108_2
          try clear hcz109_0
          try clear hcz109_1
          try clear hcz109_2
          try clear hcz109_3
          try clear hcz62_0
          try clear hcz62_1
          try clear hcz62_2
          try clear hcz62_3
          try clear hcz65_0
          try clear hcz65_1
          try clear hcz65_2
          try clear hcz65_3
          try clear hcz69_0
          try clear hcz69_1
          try clear hcz69_2
          try clear hcz69_3
          try clear hcz70_0
          try clear hcz70_1
          try clear hcz70_2
          try clear hcz72_0
          try clear hcz72_1
          try clear hcz72_2
          try clear hcz72_3
          try clear hcz73_0
          try clear hcz73_1
          try clear hcz73_2
          try clear hcz75_0
          try clear hcz75_1
          try clear hcz75_2
          try clear hcz75_3
          try clear hcz76_0
          try clear hcz76_1
          try clear hcz76_2
          try clear hcz85_0
          try clear hcz85_1
          try clear hcz85_2
          try clear hcz88_0
          try clear hcz88_1
          try clear hcz88_2
          try clear hcz89_0
          try clear hcz89_1
          try clear hcz89_2
          try clear hcz89_3
          try clear hcz93_0
          try clear hcz93_1
          try clear hcz93_2
          try clear hcz94_0
          try clear hcz94_1
          try clear hcz94_2
          try clear hcz94_3
          try clear hcz98_0
          try clear hcz98_1
          try clear hcz98_2
          try clear hcz99_0
          try clear hcz99_1
          try clear hcz99_2
          try clear hcz99_3
          try clear hfz103_0
          try clear hfz103_1
          try clear hfz103_2
          try clear hfz104_0
          try clear hfz104_1
          try clear hfz104_2
          try clear hfz104_3
          try clear hfz108_0
          try clear hfz108_1
          try clear hfz108_2
          try clear hfz109_0
          try clear hfz109_1
          try clear hfz109_2
          try clear hfz109_3
          try clear hfz62_0
          try clear hfz62_1
          try clear hfz62_2
          try clear hfz62_3
          try clear hfz65_0
          try clear hfz65_1
          try clear hfz65_2
          try clear hfz65_3
          try clear hfz69_0
          try clear hfz69_1
          try clear hfz69_2
          try clear hfz69_3
          try clear hfz70_0
          try clear hfz70_1
          try clear hfz70_2
          try clear hfz72_0
          try clear hfz72_1
          try clear hfz72_2
          try clear hfz72_3
          try clear hfz73_0
          try clear hfz73_1
          try clear hfz73_2
          try clear hfz75_0
          try clear hfz75_1
          try clear hfz75_2
          try clear hfz75_3
          try clear hfz76_0
          try clear hfz76_1
          try clear hfz76_2
          try clear hfz85_0
          try clear hfz85_1
          try clear hfz85_2
          try clear hfz88_0
          try clear hfz88_1
          try clear hfz88_2
          try clear hfz89_0
          try clear hfz89_1
          try clear hfz89_2
          try clear hfz89_3
          try clear hfz93_0
          try clear hfz93_1
          try clear hfz93_2
          try clear hfz94_0
          try clear hfz94_1
          try clear hfz94_2
          try clear hfz94_3
          try clear hfz98_0
          try clear hfz98_1
          try clear hfz98_2
          try clear hfz99_0
          try clear hfz99_1
          try clear hfz99_2
          try clear hfz99_3
          try clear p2
          obtain ⟨kq, x113_77, rfl, HA, HJ77, BK299, BK300, HB⟩ := hcut
          cases kq with
          | zero => exact absurd HA.out (by simp [assessorlaw51_DeadlinesExtends.j2])
          | succ kj77 =>
           have H := HA.out
           clear HA
           simp only [assessorlaw51_DeadlinesExtends.j2] at H
           by_cases c111 : x113_77 = true
           ·subst c111
            have H1 : (none) = some r := by rw [if_pos rfl] at H; exact H
            clear H
            have H := H1
            clear H1
            exact absurd H (by simp)
           ·replace c111 := Bool.eq_false_iff.mpr c111
            subst c111
            have H1 : (if a5 < 0 then (assessorlaw51_DeadlinesExtends.j3 kj77 a4 a5 t304 true a0_0 a0_1 a0_2 l0_3) else (if a5 > 1099511627776 then (assessorlaw51_DeadlinesExtends.j3 kj77 a4 a5 t304 true a0_0 a0_1 a0_2 l0_3) else (if a4 > (wrap64 (1099511627776 - a5)) then (assessorlaw51_DeadlinesExtends.j3 kj77 a4 a5 t304 true a0_0 a0_1 a0_2 l0_3) else (assessorlaw51_DeadlinesExtends.j3 kj77 a4 a5 t304 (decide (t304 > (wrap64 (1099511627776 - a5)))) a0_0 a0_1 a0_2 l0_3)))) = some r := by rw [if_neg (show ¬ (false = true) by decide)] at H; exact H
            clear H
            have H := H1
            clear H1
            have HC112 := Aside0.mk H
            clear H
            go_upto_region 10 with (fail)
            go_cut [131] (fun v131 wc => ∃ (kq : Nat) (x131_111 : Bool), v131 = .bool x131_111 ∧ Aside0 (assessorlaw51_DeadlinesExtends.j3 kq a4 a5 t304 x131_111 a0_0 a0_1 a0_2 l0_3 = some r) ∧ Aside0 (kq ≤ kj77) ∧ Aside0 (wc.heap[gb299]? = some (.cells #[.int .i64 a0_0, .int .i64 a0_1, .bool a0_2, (.slice A0_3 l0_3.length c0_3)] 24 (0, 0))) ∧ Aside0 (wc.heap[gb300]? = some (.cells #[.string a2_0, .int .i64 a2_1, .int .i64 a2_2] 49 (0, 0))) ∧ Aside0 (Below w.heap.size w wc))
            case first =>
             have H := HC112.out
             clear HC112
             by_cases c113 : a5 < 0
             ·rw [if_pos c113] at H
              have c113b0 : decide (a5 < 0) = true := decide_eq_true c113
              clear c113
              (first | rw [c113b0] | (simp only [i64_w, i32_w]; rw [c113b0]) | skip)
              have H' := Aside0.mk H
              clear H
              go_wp2
              go_meet
              case rel => exact ⟨_, (true), (by first | rfl | (simp; done) | (simp [*]; done)), H', ⟨by have := HJ8.out; have := HJ48.out; have := HJ77.out; first | omega | exact Nat.le_refl _⟩, ⟨by (with_reducible repeat (first | refine blk_drewN ?_ _ | refine blk_drew ?_ | refine blk_alloc ?_ _)); exact BK299.out⟩, ⟨by (with_reducible repeat (first | refine blk_drewN ?_ _ | refine blk_drew ?_ | refine blk_alloc ?_ _)); exact BK300.out⟩, ⟨by repeat (first | (with_reducible first | exact HB.out | apply below_alloc | apply pw_below_drewN | apply below_drew1 | refine below_set ?_ GE299.out | refine below_set ?_ GE300.out) | exact HB.out)⟩⟩
             ·rw [if_neg c113] at H
              have c113b0 : decide (a5 < 0) = false := decide_eq_false c113
              clear c113
              (first | rw [c113b0] | (simp only [i64_w, i32_w]; rw [c113b0]) | skip)
              by_cases c114 : a5 > 1099511627776
              ·rw [if_pos c114] at H
               have c114b0 : decide (1099511627776 < a5) = true := decide_eq_true c114
               clear c114
               have H' := Aside0.mk H
               clear H
               go_wp2
               go_meet
               case rel => exact ⟨_, (true), (by first | rfl | (simp; done) | (simp [*]; done)), H', ⟨by have := HJ8.out; have := HJ48.out; have := HJ77.out; first | omega | exact Nat.le_refl _⟩, ⟨by (with_reducible repeat (first | refine blk_drewN ?_ _ | refine blk_drew ?_ | refine blk_alloc ?_ _)); exact BK299.out⟩, ⟨by (with_reducible repeat (first | refine blk_drewN ?_ _ | refine blk_drew ?_ | refine blk_alloc ?_ _)); exact BK300.out⟩, ⟨by repeat (first | (with_reducible first | exact HB.out | apply below_alloc | apply pw_below_drewN | apply below_drew1 | refine below_set ?_ GE299.out | refine below_set ?_ GE300.out) | exact HB.out)⟩⟩
              ·rw [if_neg c114] at H
               have c114b0 : decide (1099511627776 < a5) = false := decide_eq_false c114
               clear c114
               by_cases c115 : a4 > (wrap64 (1099511627776 - a5))
               ·rw [if_pos c115] at H
                have c115b0 : decide ((wrap64 (1099511627776 - a5)) < a4) = true := decide_eq_true c115
                clear c115
                have H' := Aside0.mk H
                clear H
                go_wp2
                go_meet
                case rel => exact ⟨_, (true), (by first | rfl | (simp; done) | (simp [*]; done)), H', ⟨by have := HJ8.out; have := HJ48.out; have := HJ77.out; first | omega | exact Nat.le_refl _⟩, ⟨by (with_reducible repeat (first | refine blk_drewN ?_ _ | refine blk_drew ?_ | refine blk_alloc ?_ _)); exact BK299.out⟩, ⟨by (with_reducible repeat (first | refine blk_drewN ?_ _ | refine blk_drew ?_ | refine blk_alloc ?_ _)); exact BK300.out⟩, ⟨by repeat (first | (with_reducible first | exact HB.out | apply below_alloc | apply pw_below_drewN | apply below_drew1 | refine below_set ?_ GE299.out | refine below_set ?_ GE300.out) | exact HB.out)⟩⟩
               ·rw [if_neg c115] at H
                have c115b0 : decide ((wrap64 (1099511627776 - a5)) < a4) = false := decide_eq_false c115
                clear c115
                have H' := Aside0.mk H
                clear H
                go_wp2
                go_meet
                case rel => exact ⟨_, (decide (t304 > (wrap64 (1099511627776 - a5)))), (by first | rfl | (simp; done) | (simp [*]; done)), H', ⟨by have := HJ8.out; have := HJ48.out; have := HJ77.out; first | omega | exact Nat.le_refl _⟩, ⟨by (with_reducible repeat (first | refine blk_drewN ?_ _ | refine blk_drew ?_ | refine blk_alloc ?_ _)); exact BK299.out⟩, ⟨by (with_reducible repeat (first | refine blk_drewN ?_ _ | refine blk_drew ?_ | refine blk_alloc ?_ _)); exact BK300.out⟩, ⟨by repeat (first | (with_reducible first | exact HB.out | apply below_alloc | apply pw_below_drewN | apply below_drew1 | refine below_set ?_ GE299.out | refine below_set ?_ GE300.out) | exact HB.out)⟩⟩
            case rest =>
             clear HC112
             try clear c1
             try clear c2
             try clear p2
             try clear c3
             try clear c4
             try clear c6
             try clear p6
             try clear c7
             try clear c8
             try clear c9
             try clear c10
             try clear c11
             try clear c17
             try clear c23
             try clear c47
             try clear c60
             try clear c60b0
             try clear c61
             try clear c63
             try clear c63b0
             try clear c64
             try clear p64
             try clear c66
             try clear c66b0
             try clear c66b1
             try clear c67
             try clear c67b0
             try clear c68
             try clear c71
             try clear c74
             try clear c77
             try clear c79
             try clear c79b0
             try clear c79b1
             try clear c80
             try clear c80b0
             try clear c81
             try clear c81b0
             try clear c82
             try clear c82b0
             try clear c83
             try clear c83b0
             try clear c84
             try clear c87
             try clear c92
             try clear c97
             try clear c102
             try clear c107
             try clear c111
             try clear c113
             try clear c113b0
             try clear c114
             try clear c114b0
             try clear c115
             try clear c115b0
             try clear hcz103_0
             try clear hcz103_1
             try clear hcz103_2
             try clear hcz104_0
             try clear hcz104_1
             try clear hcz104_2
             try clear hcz104_3
             try clear hcz108_0
             try clear hcz108_1
             try clear hcz108_2
             try clear hcz109_0
             try clear hcz109_1
             try clear hcz109_2
             try clear hcz109_3
             try clear hcz62_0
             try clear hcz62_1
             try clear hcz62_2
             try clear hcz62_3
             try clear hcz65_0
             try clear hcz65_1
             try clear hcz65_2
             try clear hcz65_3
             try clear hcz69_0
             try clear hcz69_1
             try clear hcz69_2
             try clear hcz69_3
             try clear hcz70_0
             try clear hcz70_1
             try clear hcz70_2
             try clear hcz72_0
             try clear hcz72_1
             try clear hcz72_2
             try clear hcz72_3
             try clear hcz73_0
             try clear hcz73_1
             try clear hcz73_2
             try clear hcz75_0
             try clear hcz75_1
             try clear hcz75_2
             try clear hcz75_3
             try clear hcz76_0
             try clear hcz76_1
             try clear hcz76_2
             try clear hcz85_0
             try clear hcz85_1
             try clear hcz85_2
             try clear hcz88_0
             try clear hcz88_1
             try clear hcz88_2
             try clear hcz89_0
             try clear hcz89_1
             try clear hcz89_2
             try clear hcz89_3
             try clear hcz93_0
             try clear hcz93_1
             try clear hcz93_2
             try clear hcz94_0
             try clear hcz94_1
             try clear hcz94_2
             try clear hcz94_3
             try clear hcz98_0
             try clear hcz98_1
             try clear hcz98_2
             try clear hcz99_0
             try clear hcz99_1
             try clear hcz99_2
             try clear hcz99_3
             try clear hfz103_0
             try clear hfz103_1
             try clear hfz103_2
             try clear hfz104_0
             try clear hfz104_1
             try clear hfz104_2
             try clear hfz104_3
             try clear hfz108_0
             try clear hfz108_1
             try clear hfz108_2
             try clear hfz109_0
             try clear hfz109_1
             try clear hfz109_2
             try clear hfz109_3
             try clear hfz62_0
             try clear hfz62_1
             try clear hfz62_2
             try clear hfz62_3
             try clear hfz65_0
             try clear hfz65_1
             try clear hfz65_2
             try clear hfz65_3
             try clear hfz69_0
             try clear hfz69_1
             try clear hfz69_2
             try clear hfz69_3
             try clear hfz70_0
             try clear hfz70_1
             try clear hfz70_2
             try clear hfz72_0
             try clear hfz72_1
             try clear hfz72_2
             try clear hfz72_3
             try clear hfz73_0
             try clear hfz73_1
             try clear hfz73_2
             try clear hfz75_0
             try clear hfz75_1
             try clear hfz75_2
             try clear hfz75_3
             try clear hfz76_0
             try clear hfz76_1
             try clear hfz76_2
             try clear hfz85_0
             try clear hfz85_1
             try clear hfz85_2
             try clear hfz88_0
             try clear hfz88_1
             try clear hfz88_2
             try clear hfz89_0
             try clear hfz89_1
             try clear hfz89_2
             try clear hfz89_3
             try clear hfz93_0
             try clear hfz93_1
             try clear hfz93_2
             try clear hfz94_0
             try clear hfz94_1
             try clear hfz94_2
             try clear hfz94_3
             try clear hfz98_0
             try clear hfz98_1
             try clear hfz98_2
             try clear hfz99_0
             try clear hfz99_1
             try clear hfz99_2
             try clear hfz99_3
             try clear p2
             obtain ⟨kq, x131_111, rfl, HA, HJ111, BK299, BK300, HB⟩ := hcut
             cases kq with
             | zero => exact absurd HA.out (by simp [assessorlaw51_DeadlinesExtends.j3])
             | succ kj111 =>
              have H := HA.out
              clear HA
              simp only [assessorlaw51_DeadlinesExtends.j3] at H
              by_cases c116 : x131_111 = true
              ·subst c116
               have H1 : (some true) = some r := by rw [if_pos rfl] at H; exact H
               clear H
               have H := H1
               clear H1
               obtain rfl := Option.some.inj H
               go_wp2
               go_ret
               exact ⟨by first | rfl | (simp [errW_none, errW_some] <;> rfl) | (simp [*, errW_none, errW_some] <;> rfl), by repeat (first | (with_reducible first | exact HB.out | apply below_alloc | apply pw_below_drewN | apply below_drew1 | refine below_set ?_ GE299.out | refine below_set ?_ GE300.out) | exact HB.out)⟩
              ·replace c116 := Bool.eq_false_iff.mpr c116
               subst c116
               have H1 : ((deadlines_Late.f kj111 a0_0 a0_1 a0_2 l0_3 t304 a4).bind fun t320 => ((deadlines_Late.f kj111 a0_0 a0_1 a0_2 l0_3 (wrap64 (t304 + a5)) (wrap64 (a4 + a5))).bind fun t321 => (some (t320 == t321)))) = some r := by rw [if_neg (show ¬ (false = true) by decide)] at H; exact H
               clear H
               have H := H1
               clear H1
               replace H := Option.bind_eq_some_iff.mp H
               obtain ⟨t320, A1170, H⟩ := H
               replace H : ((deadlines_Late.f kj111 a0_0 a0_1 a0_2 l0_3 (wrap64 (t304 + a5)) (wrap64 (a4 + a5))).bind fun t321 => (some (t320 == t321))) = some r := H
               have A117 := Aside0.mk A1170
               clear A1170
               replace H := Option.bind_eq_some_iff.mp H
               obtain ⟨t321, A1180, H⟩ := H
               replace H : (some (t320 == t321)) = some r := H
               have A118 := Aside0.mk A1180
               clear A1180
               obtain rfl := Option.some.inj H
               try go_wp2
               have n0_ := Aside0.mk (blk_drew BK299.out)
               have n1_ := Aside0.mk (blk_drew BK300.out)
               have n2_ := Aside0.mk (below_drew1 HB.out)
               clear BK299
               clear BK300
               clear HB
               have BK299 := n0_
               have BK300 := n1_
               have HB := n2_
               clear n0_ n1_ n2_
               refine start_ (n := 14) (S := fun w' => w'.cell? ⟨gb299, 0, none⟩ = some (.int .i64 a0_0) ∧ w'.cell? ⟨gb299, 1, none⟩ = some (.int .i64 a0_1) ∧ w'.cell? ⟨gb299, 2, none⟩ = some (.bool a0_2) ∧ w'.cell? ⟨gb299, 3, none⟩ = some (.slice A0_3 l0_3.length c0_3)) (ds := []) #[false, false, false, false, false, false, false, false, false, false, false, false, false, false] (by kernel_rfl) rfl rfl ⟨(blk_cell BK299.out 0).trans rfl, (blk_cell BK299.out 1).trans rfl, (blk_cell BK299.out 2).trans rfl, (blk_cell BK299.out 3).trans rfl⟩ (fun hHeld => ?_); refine with_tabW assessorlaw51_DeadlinesExtends.tab12 assessorlaw51_DeadlinesExtends.bits12 (fun HT_ HW_ => ?_)
               generalize wc.drew = w119 at BK299 BK300 HB hHeld ⊢
               refine pure_ (i := 1) (N := some 133) (v := ?_) (a' := ?_) #[false, true, false, false, false, false, false, false, false, false, false, false, false, false] rfl rfl (any_of HT_.out (by kernel_rfl)) (fun _ _ _ h => h) (Or.inl ⟨by rfl, ?_⟩) ?_ ?_
               rotate_left
               ·intro w'
                go_simp
                with_reducible rfl
               rotate_left
               ·simp only [Act.put, List.setIfInBounds_toArray, List.set_cons_zero, List.set_cons_succ, i64_w, i32_w]
                rfl
               refine pure_ (i := 2) (N := some 134) (v := ?_) (a' := ?_) #[false, true, true, false, false, false, false, false, false, false, false, false, false, false] rfl rfl (any_of HT_.out (by kernel_rfl)) (fun _ _ _ h => h) (Or.inl ⟨by rfl, ?_⟩) ?_ ?_
               rotate_left
               ·intro w'
                go_simp
                with_reducible rfl
               rotate_left
               ·simp only [Act.put, List.setIfInBounds_toArray, List.set_cons_zero, List.set_cons_succ, i64_w, i32_w]
                rfl
               refine pure_ (i := 5) (N := some 137) (v := ?_) (a' := ?_) #[false, true, true, false, false, true, false, false, false, false, false, false, false, false] rfl rfl (any_of HT_.out (by kernel_rfl)) (fun _ _ _ h => h) (Or.inl ⟨by rfl, ?_⟩) ?_ ?_
               rotate_left
               ·intro w'
                go_simp
                with_reducible rfl
               rotate_left
               ·simp only [Act.put, List.setIfInBounds_toArray, List.set_cons_zero, List.set_cons_succ, i64_w, i32_w]
                rfl
               refine pure_ (i := 6) (N := some 138) (v := ?_) (a' := ?_) #[false, true, true, false, false, true, true, false, false, false, false, false, false, false] rfl rfl (any_of HT_.out (by kernel_rfl)) (fun _ _ _ h => h) (Or.inl ⟨by rfl, ?_⟩) ?_ ?_
               rotate_left
               ·intro w'
                go_simp
                with_reducible rfl
               rotate_left
               ·simp only [Act.put, List.setIfInBounds_toArray, List.set_cons_zero, List.set_cons_succ, i64_w, i32_w]
                rfl
               refine pure_ (i := 7) (N := some 139) (v := ?_) (a' := ?_) #[false, true, true, false, false, true, true, true, false, false, false, false, false, false] rfl rfl (any_of HT_.out (by kernel_rfl)) (fun _ _ _ h => h) (Or.inl ⟨by rfl, ?_⟩) ?_ ?_
               rotate_left
               ·intro w'
                go_simp
                with_reducible rfl
               rotate_left
               ·simp only [Act.put, List.setIfInBounds_toArray, List.set_cons_zero, List.set_cons_succ, i64_w, i32_w]
                rfl
               refine pure_ (i := 8) (N := some 140) (v := ?_) (a' := ?_) #[false, true, true, false, false, true, true, true, true, false, false, false, false, false] rfl rfl (any_of HT_.out (by kernel_rfl)) (fun _ _ _ h => h) (Or.inl ⟨by rfl, ?_⟩) ?_ ?_
               rotate_left
               ·intro w'
                go_simp
                with_reducible rfl
               rotate_left
               ·simp only [Act.put, List.setIfInBounds_toArray, List.set_cons_zero, List.set_cons_succ, i64_w, i32_w]
                rfl
               refine pure_ (i := 9) (N := some 141) (v := ?_) (a' := ?_) #[false, true, true, false, false, true, true, true, true, true, false, false, false, false] rfl rfl (any_of HT_.out (by kernel_rfl)) (fun _ _ _ h => h) (Or.inl ⟨by rfl, ?_⟩) ?_ ?_
               rotate_left
               ·intro w'
                go_simp
                with_reducible rfl
               rotate_left
               ·simp only [Act.put, List.setIfInBounds_toArray, List.set_cons_zero, List.set_cons_succ, i64_w, i32_w]
                rfl
               refine pure_ (i := 10) (N := some 142) (v := ?_) (a' := ?_) #[false, true, true, false, false, true, true, true, true, true, true, false, false, false] rfl rfl (any_of HT_.out (by kernel_rfl)) (fun _ _ _ h => h) (Or.inl ⟨by rfl, ?_⟩) ?_ ?_
               rotate_left
               ·intro w'
                go_simp
                with_reducible rfl
               rotate_left
               ·simp only [Act.put, List.setIfInBounds_toArray, List.set_cons_zero, List.set_cons_succ, i64_w, i32_w]
                rfl
               refine take_ (i := 0) (N := some 132) (v := ?_) (a' := ?_) #[true, true, true, false, false, true, true, true, true, true, true, false, false, false] rfl rfl (take_ofW HT_.out HW_.out (by kernel_rfl)) (fun _ _ _ h => h) (Or.inl ⟨by rfl, ?_⟩) hHeld ?_ ?_
               rotate_left
               ·rintro w' ⟨s0, s1, s2, s3⟩
                go_simp
                with_reducible rfl
               rotate_left
               ·simp only [Act.put, List.setIfInBounds_toArray, List.set_cons_zero, List.set_cons_succ, i64_w, i32_w]
                rfl
               refine take_ (i := 4) (N := some 136) (v := ?_) (a' := ?_) #[true, true, true, false, true, true, true, true, true, true, true, false, false, false] rfl rfl (take_ofW HT_.out HW_.out (by kernel_rfl)) (fun _ _ _ h => h) (Or.inl ⟨by rfl, ?_⟩) hHeld ?_ ?_
               rotate_left
               ·rintro w' ⟨s0, s1, s2, s3⟩
                go_simp
                with_reducible rfl
               rotate_left
               ·simp only [Act.put, List.setIfInBounds_toArray, List.set_cons_zero, List.set_cons_succ, i64_w, i32_w]
                rfl
               refine one_ (i := 3) (N := some 135) #[true, true, true, true, true, true, true, true, true, true, true, false, false, false] rfl rfl (one_of HT_.out (by kernel_rfl)) (by decide) (fun K hK => ?_)
               refine goes_ Try.func19 (by kernel_rfl) rfl #[.agg #[.int .i64 a0_0, .int .i64 a0_1, .bool a0_2, .slice A0_3 l0_3.length c0_3], .int .i64 t304, .int .i64 a4] (by rfl) rfl rfl (by (try simp only [List.map_toArray, List.map_cons, List.map_nil]); first | done | rfl | (simp only [List.length_drop, List.length_take]; rfl)) ?_
               with_reducible refine (deadlines_Late.calls kj111 a0_0 a0_1 a0_2 _ _ l0_3 t304 a4 t320 _ ?side1 ?side2 A117.out).mono ?_
               (case side1 => repeat (first | exact (Kd.C_below HR0_3.out HB.out) | (with_reducible refine Kd.C_alloc ?_ _) | (with_reducible refine Kd.C_drewN ?_ _) | (with_reducible refine Kd.C_drew ?_)))
               (case side2 => exact HC0_3.out)
               rintro e w120 ⟨rfl, hb⟩
               refine ⟨_, rfl, ?_⟩
               have n0_ := Aside0.mk (blk_below (g := gb299) (o := .cells #[.int .i64 a0_0, .int .i64 a0_1, .bool a0_2, .slice A0_3 l0_3.length c0_3] 24 (0, 0)) (by (with_reducible repeat (first | refine blk_drewN ?_ _ | refine blk_drew ?_ | refine blk_alloc ?_ _)); exact BK299.out) hb)
               have n1_ := Aside0.mk (blk_below (g := gb300) (o := .cells #[.string a2_0, .int .i64 a2_1, .int .i64 a2_2] 49 (0, 0)) (by (with_reducible repeat (first | refine blk_drewN ?_ _ | refine blk_drew ?_ | refine blk_alloc ?_ _)); exact BK300.out) hb)
               have n2_ := Aside0.mk (below_step (by repeat (first | (with_reducible first | exact HB.out | apply below_alloc | apply pw_below_drewN | apply below_drew1 | refine below_set ?_ GE299.out | refine below_set ?_ GE300.out) | exact HB.out)) hb)
               clear BK299
               clear BK300
               clear HB
               have BK299 := n0_
               have BK300 := n1_
               have HB := n2_
               clear n0_ n1_ n2_
               (try clear hb)
               (try clear hb2)
               (try clear hk)
               (try clear hi)
               refine hK.out _ _ ⟨(blk_cell BK299.out 0).trans rfl, (blk_cell BK299.out 1).trans rfl, (blk_cell BK299.out 2).trans rfl, (blk_cell BK299.out 3).trans rfl⟩ (fun hHeld => ?_)
               clear hK K
               refine norm_ (a' := ?_) ?_ ?_
               rotate_left
               ·show Act.put _ (some 135) _ = _
                simp only [Act.put, List.setIfInBounds_toArray, List.set_cons_zero, List.set_cons_succ, i64_w, i32_w]
                rfl
               refine one_ (i := 11) (N := some 143) #[true, true, true, true, true, true, true, true, true, true, true, true, false, false] rfl rfl (one_of HT_.out (by kernel_rfl)) (by decide) (fun K hK => ?_)
               refine goes_ Try.func19 (by kernel_rfl) rfl #[.agg #[.int .i64 a0_0, .int .i64 a0_1, .bool a0_2, .slice A0_3 l0_3.length c0_3], .int .i64 (wrap64 (t304 + a5)), .int .i64 (wrap64 (a4 + a5))] (by rfl) rfl rfl (by (try simp only [List.map_toArray, List.map_cons, List.map_nil]); first | done | rfl | (simp only [List.length_drop, List.length_take]; rfl)) ?_
               with_reducible refine (deadlines_Late.calls kj111 a0_0 a0_1 a0_2 _ _ l0_3 (wrap64 (t304 + a5)) (wrap64 (a4 + a5)) t321 _ ?side1 ?side2 A118.out).mono ?_
               (case side1 => repeat (first | exact (Kd.C_below HR0_3.out HB.out) | (with_reducible refine Kd.C_alloc ?_ _) | (with_reducible refine Kd.C_drewN ?_ _) | (with_reducible refine Kd.C_drew ?_)))
               (case side2 => exact HC0_3.out)
               rintro e w121 ⟨rfl, hb⟩
               refine ⟨_, rfl, ?_⟩
               have n0_ := Aside0.mk (blk_below (g := gb299) (o := .cells #[.int .i64 a0_0, .int .i64 a0_1, .bool a0_2, .slice A0_3 l0_3.length c0_3] 24 (0, 0)) (by (with_reducible repeat (first | refine blk_drewN ?_ _ | refine blk_drew ?_ | refine blk_alloc ?_ _)); exact BK299.out) hb)
               have n1_ := Aside0.mk (blk_below (g := gb300) (o := .cells #[.string a2_0, .int .i64 a2_1, .int .i64 a2_2] 49 (0, 0)) (by (with_reducible repeat (first | refine blk_drewN ?_ _ | refine blk_drew ?_ | refine blk_alloc ?_ _)); exact BK300.out) hb)
               have n2_ := Aside0.mk (below_step (by repeat (first | (with_reducible first | exact HB.out | apply below_alloc | apply pw_below_drewN | apply below_drew1 | refine below_set ?_ GE299.out | refine below_set ?_ GE300.out) | exact HB.out)) hb)
               clear BK299
               clear BK300
               clear HB
               have BK299 := n0_
               have BK300 := n1_
               have HB := n2_
               clear n0_ n1_ n2_
               (try clear hb)
               (try clear hb2)
               (try clear hk)
               (try clear hi)
               refine hK.out _ _ ⟨(blk_cell BK299.out 0).trans rfl, (blk_cell BK299.out 1).trans rfl, (blk_cell BK299.out 2).trans rfl, (blk_cell BK299.out 3).trans rfl⟩ (fun hHeld => ?_)
               clear hK K
               refine norm_ (a' := ?_) ?_ ?_
               rotate_left
               ·show Act.put _ (some 143) _ = _
                simp only [Act.put, List.setIfInBounds_toArray, List.set_cons_zero, List.set_cons_succ, i64_w, i32_w]
                rfl
               refine pure_ (i := 12) (N := some 144) (v := ?_) (a' := ?_) #[true, true, true, true, true, true, true, true, true, true, true, true, true, false] rfl rfl (any_of HT_.out (by kernel_rfl)) (fun _ _ _ h => h) (Or.inl ⟨by rfl, ?_⟩) ?_ ?_
               rotate_left
               ·intro w'
                go_simp
                with_reducible rfl
               rotate_left
               ·simp only [Act.put, List.setIfInBounds_toArray, List.set_cons_zero, List.set_cons_succ, i64_w, i32_w]
                rfl
               refine pure_ (i := 13) (N := some 12) (v := ?_) (a' := ?_) #[true, true, true, true, true, true, true, true, true, true, true, true, true, true] rfl rfl (any_of HT_.out (by kernel_rfl)) (fun _ _ _ h => h) (Or.inl ⟨by rfl, ?_⟩) ?_ ?_
               rotate_left
               ·intro w'
                go_simp
                with_reducible rfl
               rotate_left
               ·simp only [Act.put, List.setIfInBounds_toArray, List.set_cons_zero, List.set_cons_succ, i64_w, i32_w]
                rfl
               refine done_ (done_of HT_.out (by kernel_rfl)) ?_
               try go_wp2
               go_ret
               exact ⟨by first | rfl | (simp [errW_none, errW_some] <;> rfl) | (simp [*, errW_none, errW_some] <;> rfl), by repeat (first | (with_reducible first | exact HB.out | apply below_alloc | apply pw_below_drewN | apply below_drew1 | refine below_set ?_ GE299.out | refine below_set ?_ GE300.out) | exact HB.out)⟩
     ·rw [if_neg c47] at H
      exact absurd H (by simp)
 ·replace c8 := Bool.eq_false_iff.mpr c8
  subst c8
  have H1 : (none) = some r := by rw [if_neg (show ¬ (false = true) by decide)] at H; exact H
  clear H
  have H := H1
  clear H1
  exact absurd H (by simp)

end Go.Proofs.Ytbehhijmcnoeeaa.XA
