/- Functions of the given Go program as Lean functions, each with a proof that the machine's call answers so; conditions: the premises written in each. -/
import Derived.Test.YtbehhijmcnoeeaaXAx0
import Derived.Test.YtbehhijmcnoeeaaXAx1
import Derived.Test.YtbehhijmcnoeeaaXAx7
import Derived.Test.YtbehhijmcnoeeaaXAx14
import Derived.Test.YtbehhijmcnoeeaaXAx15
import Derived.Test.YtbehhijmcnoeeaaXAx26
namespace Go.Proofs.Ytbehhijmcnoeeaa.XA
open Go.RowKit Go.Proofs.YtbehhijmcnoeeaaW.PrintWords Go.Proofs.YtbehhijmcnoeeaaW.PrintLast Go.Proofs.YtbehhijmcnoeeaaW.PrintMore
attribute [local go_sem] max2_int min2_int max_two min_two max_three min_three max_four min_four   -- for this text's walks alone
set_option linter.unusedVariables false
set_option linter.unusedSimpArgs false

attribute [local go_sem high] eqA27
/-! ### assessorlaw51_DeadlinesFactors: function 9 -/
def assessorlaw51_DeadlinesFactors.j0 : Nat → Int → Int → List Int → Int → Bool → Int → Int → Bool → List (S34) → Option (Bool)
 | 0, _, _, _, _, _, _, _, _, _ => none
 | k + 1, x1, x2, x3, x4, x25, x376000, x376001, x376002, x376003 => if x25 = true then (some true) else ((deadlines_Until.f k x376000 x376001 x376002 x376003 x2).bind fun bt377 => ((assessorref51_Until.f k x376000 x376001 x376002 x376003 x2).bind fun bt379 => ((deadlines_Factor.f k x376000 x376001 x376002 x376003 x1).bind fun bt381 => ((assessorref51_Factor.f k x376000 x376001 x376002 x376003 x1).bind fun bt383 => (if (bt381.1 == bt383.1 && (bt381.2 == bt383.2)) = true then (if bt377.1 = bt379.1 then (if (bt377.2 == bt379.2) = true then ((deadlines_Spend.f k x3 x4).bind fun t385 => ((assessorref51_Spend.f k x3 x4).bind fun t388 => ((assessorref49_Ints.f k t385 t388).bind fun t391 => (some t391)))) else (none)) else (none)) else (none))))))
def assessorlaw51_DeadlinesFactors.f (k : Nat) (a0_0 : Int) (a0_1 : Int) (a0_2 : Bool) (l0_3 : List (S34)) (a1 : Int) (a2 : Int) (l3 : List Int) (a4 : Int) : Option (Bool) := (assessorlaw51_awake.f k).bind fun t376 => (if t376 = true then (if (l0_3.length : Int) > 20 then (assessorlaw51_DeadlinesFactors.j0 k a1 a2 l3 a4 true a0_0 a0_1 a0_2 l0_3) else (assessorlaw51_DeadlinesFactors.j0 k a1 a2 l3 a4 (decide ((l3.length : Int) > 30)) a0_0 a0_1 a0_2 l0_3)) else (none))
theorem assessorlaw51_DeadlinesFactors.mono_l : ∀ k, (∀ y0 y1 y2 y3 y4 y5 y6 y7 y8, LeO (assessorlaw51_DeadlinesFactors.j0 k y0 y1 y2 y3 y4 y5 y6 y7 y8) (assessorlaw51_DeadlinesFactors.j0 (k + 1) y0 y1 y2 y3 y4 y5 y6 y7 y8))
 | 0 => fun _ _ _ _ _ _ _ _ _ r h => by simp [assessorlaw51_DeadlinesFactors.j0] at h
 | k + 1 => by
  have ih0 := assessorlaw51_DeadlinesFactors.mono_l k
  ·intro y0 y1 y2 y3 y4 y5 y6 y7 y8
   unfold assessorlaw51_DeadlinesFactors.j0
   repeat' first
   | (with_reducible exact ih0 _ _ _ _ _ _ _ _ _)
   | (with_reducible exact assessorlaw51_awake.mono _)
   | (with_reducible exact assessorref49_Ints.mono _ _ _)
   | (with_reducible exact assessorref51_Factor.mono _ _ _ _ _ _)
   | (with_reducible exact assessorref51_Spend.mono _ _ _)
   | (with_reducible exact assessorref51_Until.mono _ _ _ _ _ _)
   | (with_reducible exact deadlines_Factor.mono _ _ _ _ _ _)
   | (with_reducible exact deadlines_Spend.mono _ _ _)
   | (with_reducible exact deadlines_Until.mono _ _ _ _ _ _)
   | (with_reducible exact LeO.refl _)
   | (with_reducible exact LeO.none _)
   | (with_reducible refine LeO.ite ?_ ?_)
   | (with_reducible refine LeO.bind ?_ (fun _ => ?_))
   | exact ih0 _ _ _ _ _ _ _ _ _
   | exact assessorlaw51_awake.mono _
   | exact assessorref49_Ints.mono _ _ _
   | exact assessorref51_Factor.mono _ _ _ _ _ _
   | exact assessorref51_Spend.mono _ _ _
   | exact assessorref51_Until.mono _ _ _ _ _ _
   | exact deadlines_Factor.mono _ _ _ _ _ _
   | exact deadlines_Spend.mono _ _ _
   | exact deadlines_Until.mono _ _ _ _ _ _
   | exact LeO.none _
   | refine LeO.ite ?_ ?_
   | refine LeO.bind ?_ (fun _ => ?_)
theorem assessorlaw51_DeadlinesFactors.mono : ∀ a0 a1 a2 a3 a4 a5 a6 a7 k, LeO (assessorlaw51_DeadlinesFactors.f k a0 a1 a2 a3 a4 a5 a6 a7) (assessorlaw51_DeadlinesFactors.f (k + 1) a0 a1 a2 a3 a4 a5 a6 a7) := by
 intro a0 a1 a2 a3 a4 a5 a6 a7 k
 have ih0 := assessorlaw51_DeadlinesFactors.mono_l k
 unfold assessorlaw51_DeadlinesFactors.f
 repeat' first
   | (with_reducible exact ih0 _ _ _ _ _ _ _ _ _)
   | (with_reducible exact assessorlaw51_awake.mono _)
   | (with_reducible exact assessorref49_Ints.mono _ _ _)
   | (with_reducible exact assessorref51_Factor.mono _ _ _ _ _ _)
   | (with_reducible exact assessorref51_Spend.mono _ _ _)
   | (with_reducible exact assessorref51_Until.mono _ _ _ _ _ _)
   | (with_reducible exact deadlines_Factor.mono _ _ _ _ _ _)
   | (with_reducible exact deadlines_Spend.mono _ _ _)
   | (with_reducible exact deadlines_Until.mono _ _ _ _ _ _)
   | (with_reducible exact LeO.refl _)
   | (with_reducible exact LeO.none _)
   | (with_reducible refine LeO.ite ?_ ?_)
   | (with_reducible refine LeO.bind ?_ (fun _ => ?_))
   | exact ih0 _ _ _ _ _ _ _ _ _
   | exact assessorlaw51_awake.mono _
   | exact assessorref49_Ints.mono _ _ _
   | exact assessorref51_Factor.mono _ _ _ _ _ _
   | exact assessorref51_Spend.mono _ _ _
   | exact assessorref51_Until.mono _ _ _ _ _ _
   | exact deadlines_Factor.mono _ _ _ _ _ _
   | exact deadlines_Spend.mono _ _ _
   | exact deadlines_Until.mono _ _ _ _ _ _
   | exact LeO.none _
   | refine LeO.ite ?_ ?_
   | refine LeO.bind ?_ (fun _ => ?_)
def assessorlaw51_DeadlinesFactors.T7 : Bool × List (List Nat × List Nat) := (true, [([], []), ([], []), ([0, 1], [0, 1]), ([], []), ([], []), ([3, 4, 2], [3, 4]), ([2, 5], [2, 5]), ([6, 5], [6]), ([7], [7]), ([7], [7]), ([8, 9, 7], [7, 8, 9]), ([7, 10], [7, 10]), ([11, 7], [11]), ([12], [12]), ([12], [12]), ([13, 14, 12], [12, 13, 14]), ([12, 15], [12, 15]), ([16, 12], [16]), ([17], [17]), ([17], [17]), ([18, 19, 17, 17], [17, 18, 19]), ([17], [17]), ([17], [17]), ([21, 22, 20, 17], [17, 21, 22]), ([20, 23, 23, 17], [17, 20, 23]), ([17, 24], [17, 24]), ([25, 24, 0, 1, 2, 3, 4, 5, 6, 7, 8, 9, 10, 11, 12, 13, 14, 15, 16, 17, 18, 19, 20, 21, 22, 23, 24, 25], [25])])
def assessorlaw51_DeadlinesFactors.B7 : List Nat := [0, 0, 3, 0, 0, 31, 63, 127, 255, 255, 1023, 2047, 4095, 8191, 8191, 32767, 65535, 131071, 262143, 262143, 1048575, 262143, 262143, 8388607, 16777215, 33554431, 67108863]
theorem assessorlaw51_DeadlinesFactors.tab7 : rtab .any (opsOf Try.f9 7) = assessorlaw51_DeadlinesFactors.T7 := by kernel_rfl
theorem assessorlaw51_DeadlinesFactors.bits7 : waitsOk assessorlaw51_DeadlinesFactors.T7.2 assessorlaw51_DeadlinesFactors.B7 = true := by kernel_rfl
set_option maxHeartbeats 8000000 in
set_option maxRecDepth 100000 in
theorem assessorlaw51_DeadlinesFactors.calls (k : Nat) (a0_0 : Int) (a0_1 : Int) (a0_2 : Bool) (A0_3 : Option Addr) (c0_3 : Nat) (l0_3 : List (S34)) (a1 : Int) (a2 : Int) (A3 : Option Addr) (c3 : Nat) (l3 : List Int) (a4 : Int) (r : Bool) (w : World) (hr0_3 : Kd.C k34 w A0_3 l0_3.length l0_3) (hc0_3 : l0_3.length ≤ c0_3) (hr3 : Kd.C (Kd.int .i64) w A3 l3.length l3) (hc3 : l3.length ≤ c3) (h : assessorlaw51_DeadlinesFactors.f k a0_0 a0_1 a0_2 l0_3 a1 a2 l3 a4 = some r) :
  Calls Try.prog 9 #[.agg #[.int .i64 a0_0, .int .i64 a0_1, .bool a0_2, .slice A0_3 l0_3.length c0_3], .int .i64 a1, .int .i64 a2, .slice A3 l3.length c3, .int .i64 a4] w fun e w' => e = .returned (.bool r) ∧ Below w.heap.size w w' := by
 have hu24 := Try.underlying24
 have HR0_3 := Aside0.mk hr0_3
 have HC0_3 := Aside0.mk hc0_3
 clear hr0_3 hc0_3
 have HR3 := Aside0.mk hr3
 have HC3 := Aside0.mk hc3
 clear hr3 hc3
 have HB := Aside0.mk (Below.refl w.heap.size w)
 have H : ((assessorlaw51_awake.f k).bind fun t376 => (if t376 = true then (if (l0_3.length : Int) > 20 then (assessorlaw51_DeadlinesFactors.j0 k a1 a2 l3 a4 true a0_0 a0_1 a0_2 l0_3) else (assessorlaw51_DeadlinesFactors.j0 k a1 a2 l3 a4 (decide ((l3.length : Int) > 30)) a0_0 a0_1 a0_2 l0_3)) else (none))) = some r := h
 clear h
 replace H := Option.bind_eq_some_iff.mp H
 obtain ⟨t376, A60, H⟩ := H
 replace H : (if t376 = true then (if (l0_3.length : Int) > 20 then (assessorlaw51_DeadlinesFactors.j0 k a1 a2 l3 a4 true a0_0 a0_1 a0_2 l0_3) else (assessorlaw51_DeadlinesFactors.j0 k a1 a2 l3 a4 (decide ((l3.length : Int) > 30)) a0_0 a0_1 a0_2 l0_3)) else (none)) = some r := H
 have A6 := Aside0.mk A60
 clear A60
 by_cases c7 : t376 = true
 ·subst c7
  have H1 : (if (l0_3.length : Int) > 20 then (assessorlaw51_DeadlinesFactors.j0 k a1 a2 l3 a4 true a0_0 a0_1 a0_2 l0_3) else (assessorlaw51_DeadlinesFactors.j0 k a1 a2 l3 a4 (decide ((l3.length : Int) > 30)) a0_0 a0_1 a0_2 l0_3)) = some r := by rw [if_pos rfl] at H; exact H
  clear H
  have H := H1
  clear H1
  have HC8 := Aside0.mk H
  clear H
  go_enter Try.func9, Try.ntmps9
  go_upto_region 3 with (first | ((with_reducible refine gate_dst (N := 5) rfl ?_); (try (refine gate_guard (by rfl) ?_; dsimp only)); refine box_event ?hg (N := 5) ?hd (cs := #[.int .i64 a0_0, .int .i64 a0_1, .bool a0_2, .slice A0_3 l0_3.length c0_3]) (t := 24) ?hr ?_; (case hd => rfl); (case hg => rfl); (case hr => first | (go_simp; done) | (go_simp; rfl)); intro gb375 hg w9 hbox hb; have n0_ := Aside0.mk (below_step (by repeat (first | (with_reducible first | exact HB.out | apply below_alloc | apply pw_below_drewN | apply below_drew1) | exact HB.out)) hb); have n1_ := Aside0.mk (hbox); have n2_ := Aside0.mk ((by rw [hg]; exact (below_size (by repeat (first | (with_reducible first | exact HB.out | apply below_alloc | apply pw_below_drewN | apply below_drew1) | exact HB.out))) : w.heap.size ≤ gb375)); have n3_ := Aside0.mk ((by rw [hg]; exact (below_size (by repeat (first | (with_reducible first | exact HB.out | apply below_alloc | apply pw_below_drewN | apply below_drew1) | exact HB.out))) : w.heap.size ≤ gb375)); clear HB; have HB := n0_; have BK375 := n1_; have GW375 := n2_; have GE375 := n3_; clear n0_ n1_ n2_ n3_; clear hb hbox hg) | ((with_reducible refine gate_callee (f := 10) rfl ?_); refine goesL_ (some 15) rfl rfl Try.func10 (by kernel_rfl) rfl #[] rfl (by (try simp only [List.map_toArray, List.map_cons, List.map_nil]); first | done | rfl | (simp only [List.length_drop, List.length_take]; rfl)) ?_; (with_reducible refine (assessorlaw51_awake.calls k  true _ A6.out).mono ?_); rintro e w10 ⟨rfl, hb⟩; refine ⟨_, rfl, ?_⟩; have n0_ := Aside0.mk (blk_below (g := gb375) (o := .cells #[.int .i64 a0_0, .int .i64 a0_1, .bool a0_2, .slice A0_3 l0_3.length c0_3] 24 (0, 0)) (by (with_reducible repeat (first | refine blk_drewN ?_ _ | refine blk_drew ?_ | refine blk_alloc ?_ _)); exact BK375.out) hb); have n1_ := Aside0.mk (below_step (by repeat (first | (with_reducible first | exact HB.out | apply below_alloc | apply pw_below_drewN | apply below_drew1 | refine below_set ?_ GE375.out) | exact HB.out)) hb); clear BK375; clear HB; have BK375 := n0_; have HB := n1_; clear n0_ n1_; (try clear hb); (try clear hb2); (try clear hk); (try clear hi)))
  (try simp only [Act.put, List.setIfInBounds_toArray, List.set_cons_zero, List.set_cons_succ])
  go_cut [25] (fun v25 wc => ∃ (kq : Nat) (x25_7 : Bool), v25 = .bool x25_7 ∧ Aside0 (assessorlaw51_DeadlinesFactors.j0 kq a1 a2 l3 a4 x25_7 a0_0 a0_1 a0_2 l0_3 = some r) ∧ Aside0 (kq ≤ k) ∧ Aside0 (wc.heap[gb375]? = some (.cells #[.int .i64 a0_0, .int .i64 a0_1, .bool a0_2, (.slice A0_3 l0_3.length c0_3)] 24 (0, 0))) ∧ Aside0 (Below w.heap.size w wc))
  case first =>
   have H := HC8.out
   clear HC8
   by_cases c11 : (l0_3.length : Int) > 20
   ·rw [if_pos c11] at H
    have c11b0 : decide (20 < (l0_3.length : Int)) = true := decide_eq_true c11
    have c11b1 : decide (20 < l0_3.length) = true := decide_eq_true (by omega)
    clear c11
    (first | rw [c11b0] | (simp only [i64_w, i32_w]; rw [c11b0]) | skip)
    have H' := Aside0.mk H
    clear H
    have hcz12_0 : w10.cell? ⟨gb375, 0, none⟩ = some (.int .i64 a0_0) := (blk_cell BK375.out 0).trans rfl
    have hcz12_1 : w10.cell? ⟨gb375, 1, none⟩ = some (.int .i64 a0_1) := (blk_cell BK375.out 1).trans rfl
    have hcz12_2 : w10.cell? ⟨gb375, 2, none⟩ = some (.bool a0_2) := (blk_cell BK375.out 2).trans rfl
    have hcz12_3 : w10.cell? ⟨gb375, 3, none⟩ = some (.slice A0_3 l0_3.length c0_3) := (blk_cell BK375.out 3).trans rfl
    have hfz12_0 := blk_frozen BK375.out 0
    have hfz12_1 := blk_frozen BK375.out 1
    have hfz12_2 := blk_frozen BK375.out 2
    have hfz12_3 := blk_frozen BK375.out 3
    go_wp2
    go_meet
    case rel => exact ⟨_, (true), (by first | rfl | (simp; done) | (simp [*]; done)), H', ⟨by first | omega | exact Nat.le_refl _⟩, ⟨by (with_reducible repeat (first | refine blk_drewN ?_ _ | refine blk_drew ?_ | refine blk_alloc ?_ _)); exact BK375.out⟩, ⟨by repeat (first | (with_reducible first | exact HB.out | apply below_alloc | apply pw_below_drewN | apply below_drew1 | refine below_set ?_ GE375.out) | exact HB.out)⟩⟩
   ·rw [if_neg c11] at H
    have c11b0 : decide (20 < (l0_3.length : Int)) = false := decide_eq_false c11
    have c11b1 : decide (20 < l0_3.length) = false := decide_eq_false (by omega)
    clear c11
    (first | rw [c11b0] | (simp only [i64_w, i32_w]; rw [c11b0]) | skip)
    have H' := Aside0.mk H
    clear H
    have hcz13_0 : w10.cell? ⟨gb375, 0, none⟩ = some (.int .i64 a0_0) := (blk_cell BK375.out 0).trans rfl
    have hcz13_1 : w10.cell? ⟨gb375, 1, none⟩ = some (.int .i64 a0_1) := (blk_cell BK375.out 1).trans rfl
    have hcz13_2 : w10.cell? ⟨gb375, 2, none⟩ = some (.bool a0_2) := (blk_cell BK375.out 2).trans rfl
    have hcz13_3 : w10.cell? ⟨gb375, 3, none⟩ = some (.slice A0_3 l0_3.length c0_3) := (blk_cell BK375.out 3).trans rfl
    have hfz13_0 := blk_frozen BK375.out 0
    have hfz13_1 := blk_frozen BK375.out 1
    have hfz13_2 := blk_frozen BK375.out 2
    have hfz13_3 := blk_frozen BK375.out 3
    go_wp2
    go_meet
    case rel => exact ⟨_, (decide ((l3.length : Int) > 30)), (by first | rfl | (simp; done) | (simp [*]; done)), H', ⟨by first | omega | exact Nat.le_refl _⟩, ⟨by (with_reducible repeat (first | refine blk_drewN ?_ _ | refine blk_drew ?_ | refine blk_alloc ?_ _)); exact BK375.out⟩, ⟨by repeat (first | (with_reducible first | exact HB.out | apply below_alloc | apply pw_below_drewN | apply below_drew1 | refine below_set ?_ GE375.out) | exact HB.out)⟩⟩
  case rest =>
   clear HC8
   try clear c1
   try clear p2
   try clear c3
   try clear c7
   try clear c9
   try clear c10
   try clear c11
   try clear c11b0
   try clear c11b1
   try clear hcz12_0
   try clear hcz12_1
   try clear hcz12_2
   try clear hcz12_3
   try clear hcz13_0
   try clear hcz13_1
   try clear hcz13_2
   try clear hcz13_3
   try clear hfz12_0
   try clear hfz12_1
   try clear hfz12_2
   try clear hfz12_3
   try clear hfz13_0
   try clear hfz13_1
   try clear hfz13_2
   try clear hfz13_3
   obtain ⟨kq, x25_7, rfl, HA, HJ7, BK375, HB⟩ := hcut
   cases kq with
   | zero => exact absurd HA.out (by simp [assessorlaw51_DeadlinesFactors.j0])
   | succ kj7 =>
    have H := HA.out
    clear HA
    simp only [assessorlaw51_DeadlinesFactors.j0] at H
    by_cases c14 : x25_7 = true
    ·subst c14
     have H1 : (some true) = some r := by rw [if_pos rfl] at H; exact H
     clear H
     have H := H1
     clear H1
     obtain rfl := Option.some.inj H
     go_wp2
     go_ret
     exact ⟨by first | rfl | (simp [errW_none, errW_some] <;> rfl) | (simp [*, errW_none, errW_some] <;> rfl), by repeat (first | (with_reducible first | exact HB.out | apply below_alloc | apply pw_below_drewN | apply below_drew1 | refine below_set ?_ GE375.out) | exact HB.out)⟩
    ·replace c14 := Bool.eq_false_iff.mpr c14
     subst c14
     have H1 : ((deadlines_Until.f kj7 a0_0 a0_1 a0_2 l0_3 a2).bind fun bt377 => ((assessorref51_Until.f kj7 a0_0 a0_1 a0_2 l0_3 a2).bind fun bt379 => ((deadlines_Factor.f kj7 a0_0 a0_1 a0_2 l0_3 a1).bind fun bt381 => ((assessorref51_Factor.f kj7 a0_0 a0_1 a0_2 l0_3 a1).bind fun bt383 => (if (bt381.1 == bt383.1 && (bt381.2 == bt383.2)) = true then (if bt377.1 = bt379.1 then (if (bt377.2 == bt379.2) = true then ((deadlines_Spend.f kj7 l3 a4).bind fun t385 => ((assessorref51_Spend.f kj7 l3 a4).bind fun t388 => ((assessorref49_Ints.f kj7 t385 t388).bind fun t391 => (some t391)))) else (none)) else (none)) else (none)))))) = some r := by rw [if_neg (show ¬ (false = true) by decide)] at H; exact H
     clear H
     have H := H1
     clear H1
     replace H := Option.bind_eq_some_iff.mp H
     obtain ⟨⟨t377, t378⟩, A150, H⟩ := H
     replace H : ((assessorref51_Until.f kj7 a0_0 a0_1 a0_2 l0_3 a2).bind fun bt379 => ((deadlines_Factor.f kj7 a0_0 a0_1 a0_2 l0_3 a1).bind fun bt381 => ((assessorref51_Factor.f kj7 a0_0 a0_1 a0_2 l0_3 a1).bind fun bt383 => (if (bt381.1 == bt383.1 && (bt381.2 == bt383.2)) = true then (if t377 = bt379.1 then (if (t378 == bt379.2) = true then ((deadlines_Spend.f kj7 l3 a4).bind fun t385 => ((assessorref51_Spend.f kj7 l3 a4).bind fun t388 => ((assessorref49_Ints.f kj7 t385 t388).bind fun t391 => (some t391)))) else (none)) else (none)) else (none))))) = some r := H
     have A15 := Aside0.mk A150
     clear A150
     replace H := Option.bind_eq_some_iff.mp H
     obtain ⟨⟨t379, t380⟩, A160, H⟩ := H
     replace H : ((deadlines_Factor.f kj7 a0_0 a0_1 a0_2 l0_3 a1).bind fun bt381 => ((assessorref51_Factor.f kj7 a0_0 a0_1 a0_2 l0_3 a1).bind fun bt383 => (if (bt381.1 == bt383.1 && (bt381.2 == bt383.2)) = true then (if t377 = t379 then (if (t378 == t380) = true then ((deadlines_Spend.f kj7 l3 a4).bind fun t385 => ((assessorref51_Spend.f kj7 l3 a4).bind fun t388 => ((assessorref49_Ints.f kj7 t385 t388).bind fun t391 => (some t391)))) else (none)) else (none)) else (none)))) = some r := H
     have A16 := Aside0.mk A160
     clear A160
     replace H := Option.bind_eq_some_iff.mp H
     obtain ⟨⟨t381, t382⟩, A170, H⟩ := H
     replace H : ((assessorref51_Factor.f kj7 a0_0 a0_1 a0_2 l0_3 a1).bind fun bt383 => (if (t381 == bt383.1 && (t382 == bt383.2)) = true then (if t377 = t379 then (if (t378 == t380) = true then ((deadlines_Spend.f kj7 l3 a4).bind fun t385 => ((assessorref51_Spend.f kj7 l3 a4).bind fun t388 => ((assessorref49_Ints.f kj7 t385 t388).bind fun t391 => (some t391)))) else (none)) else (none)) else (none))) = some r := H
     have A17 := Aside0.mk A170
     clear A170
     replace H := Option.bind_eq_some_iff.mp H
     obtain ⟨⟨t383, t384⟩, A180, H⟩ := H
     replace H : (if (t381 == t383 && (t382 == t384)) = true then (if t377 = t379 then (if (t378 == t380) = true then ((deadlines_Spend.f kj7 l3 a4).bind fun t385 => ((assessorref51_Spend.f kj7 l3 a4).bind fun t388 => ((assessorref49_Ints.f kj7 t385 t388).bind fun t391 => (some t391)))) else (none)) else (none)) else (none)) = some r := H
     have A18 := Aside0.mk A180
     clear A180
     by_cases c19 : (t381 == t383 && (t382 == t384)) = true
     ·rw [if_pos c19] at H
      have c19b0 : (t381 == t383 && (t382 == t384)) = true := c19
      (try (have c19b1 : decide (t381 = t383 && (t382 == t384)) = true := by simpa using c19))
      (try (have c19b2 : (t381 == t383 && (t382 == t384)) = true := by simpa using c19))
      clear c19
      by_cases c20 : t377 = t379
      ·rw [if_pos c20] at H
       have c20b0 : (t377 == t379) = true := beq_iff_eq.mpr c20
       have c20b1 : (t377 != t379) = false := bne_eq_false_iff_eq.mpr c20
       clear c20
       by_cases c21 : (t378 == t380) = true
       ·rw [if_pos c21] at H
        have c21b0 : (t378 == t380) = true := c21
        (try (have c21b1 : decide (t378 = t380) = true := by simpa using c21))
        (try (have c21b2 : (t378 == t380) = true := by simpa using c21))
        clear c21
        replace H := Option.bind_eq_some_iff.mp H
        obtain ⟨t385, A220, H⟩ := H
        replace H : ((assessorref51_Spend.f kj7 l3 a4).bind fun t388 => ((assessorref49_Ints.f kj7 t385 t388).bind fun t391 => (some t391))) = some r := H
        have A22 := Aside0.mk A220
        clear A220
        replace H := Option.bind_eq_some_iff.mp H
        obtain ⟨t388, A230, H⟩ := H
        replace H : ((assessorref49_Ints.f kj7 t385 t388).bind fun t391 => (some t391)) = some r := H
        have A23 := Aside0.mk A230
        clear A230
        replace H := Option.bind_eq_some_iff.mp H
        obtain ⟨t391, A240, H⟩ := H
        replace H : (some t391) = some r := H
        have A24 := Aside0.mk A240
        clear A240
        obtain rfl := Option.some.inj H
        have hcz25_0 : wc.cell? ⟨gb375, 0, none⟩ = some (.int .i64 a0_0) := (blk_cell BK375.out 0).trans rfl
        have hcz25_1 : wc.cell? ⟨gb375, 1, none⟩ = some (.int .i64 a0_1) := (blk_cell BK375.out 1).trans rfl
        have hcz25_2 : wc.cell? ⟨gb375, 2, none⟩ = some (.bool a0_2) := (blk_cell BK375.out 2).trans rfl
        have hcz25_3 : wc.cell? ⟨gb375, 3, none⟩ = some (.slice A0_3 l0_3.length c0_3) := (blk_cell BK375.out 3).trans rfl
        have hfz25_0 := blk_frozen BK375.out 0
        have hfz25_1 := blk_frozen BK375.out 1
        have hfz25_2 := blk_frozen BK375.out 2
        have hfz25_3 := blk_frozen BK375.out 3
        try go_wp2_with (first | ((with_reducible refine gate_callee (f := 22) rfl ?_); refine goesL_ (some 29) rfl rfl Try.func22 (by kernel_rfl) rfl #[.agg #[.int .i64 a0_0, .int .i64 a0_1, .bool a0_2, .slice A0_3 l0_3.length c0_3], .int .i64 a2] rfl (by (try simp only [List.map_toArray, List.map_cons, List.map_nil]); first | done | rfl | (simp only [List.length_drop, List.length_take]; rfl)) ?_; (with_reducible refine (deadlines_Until.calls kj7 a0_0 a0_1 a0_2 _ _ l0_3 a2 t377 t378 _ ?side1 ?side2 A15.out).mono ?_); (case side1 => repeat (first | exact (Kd.C_below HR0_3.out HB.out) | (with_reducible refine Kd.C_alloc ?_ _) | (with_reducible refine Kd.C_drewN ?_ _) | (with_reducible refine Kd.C_drew ?_))); (case side2 => exact HC0_3.out); rintro e w26 ⟨rfl, hb⟩; refine ⟨_, rfl, ?_⟩; have n0_ := Aside0.mk (blk_below (g := gb375) (o := .cells #[.int .i64 a0_0, .int .i64 a0_1, .bool a0_2, .slice A0_3 l0_3.length c0_3] 24 (0, 0)) (by (with_reducible repeat (first | refine blk_drewN ?_ _ | refine blk_drew ?_ | refine blk_alloc ?_ _)); exact BK375.out) hb); have n1_ := Aside0.mk (below_step (by repeat (first | (with_reducible first | exact HB.out | apply below_alloc | apply pw_below_drewN | apply below_drew1 | refine below_set ?_ GE375.out) | exact HB.out)) hb); clear BK375; clear HB; have BK375 := n0_; have HB := n1_; clear n0_ n1_; (try clear hb); (try clear hb2); (try clear hk); (try clear hi); have hcz27_0 : w26.cell? ⟨gb375, 0, none⟩ = some (.int .i64 a0_0) := (blk_cell BK375.out 0).trans rfl; have hcz27_1 : w26.cell? ⟨gb375, 1, none⟩ = some (.int .i64 a0_1) := (blk_cell BK375.out 1).trans rfl; have hcz27_2 : w26.cell? ⟨gb375, 2, none⟩ = some (.bool a0_2) := (blk_cell BK375.out 2).trans rfl; have hcz27_3 : w26.cell? ⟨gb375, 3, none⟩ = some (.slice A0_3 l0_3.length c0_3) := (blk_cell BK375.out 3).trans rfl; have hfz27_0 := blk_frozen BK375.out 0; have hfz27_1 := blk_frozen BK375.out 1; have hfz27_2 := blk_frozen BK375.out 2; have hfz27_3 := blk_frozen BK375.out 3) | ((with_reducible refine gate_callee (f := 24) rfl ?_); refine goesL_ (some 35) rfl rfl Try.func24 (by kernel_rfl) rfl #[.agg #[.int .i64 a0_0, .int .i64 a0_1, .bool a0_2, .slice A0_3 l0_3.length c0_3], .int .i64 a2] rfl (by (try simp only [List.map_toArray, List.map_cons, List.map_nil]); first | done | rfl | (simp only [List.length_drop, List.length_take]; rfl)) ?_; (with_reducible refine (assessorref51_Until.calls kj7 a0_0 a0_1 a0_2 _ _ l0_3 a2 t379 t380 _ ?side1 ?side2 A16.out).mono ?_); (case side1 => repeat (first | exact (Kd.C_below HR0_3.out HB.out) | (with_reducible refine Kd.C_alloc ?_ _) | (with_reducible refine Kd.C_drewN ?_ _) | (with_reducible refine Kd.C_drew ?_))); (case side2 => exact HC0_3.out); rintro e w28 ⟨rfl, hb⟩; refine ⟨_, rfl, ?_⟩; have n0_ := Aside0.mk (blk_below (g := gb375) (o := .cells #[.int .i64 a0_0, .int .i64 a0_1, .bool a0_2, .slice A0_3 l0_3.length c0_3] 24 (0, 0)) (by (with_reducible repeat (first | refine blk_drewN ?_ _ | refine blk_drew ?_ | refine blk_alloc ?_ _)); exact BK375.out) hb); have n1_ := Aside0.mk (below_step (by repeat (first | (with_reducible first | exact HB.out | apply below_alloc | apply pw_below_drewN | apply below_drew1 | refine below_set ?_ GE375.out) | exact HB.out)) hb); clear BK375; clear HB; have BK375 := n0_; have HB := n1_; clear n0_ n1_; (try clear hb); (try clear hb2); (try clear hk); (try clear hi)))
        have n0_ := Aside0.mk (blk_drew BK375.out)
        have n1_ := Aside0.mk (below_drew1 HB.out)
        clear BK375
        clear HB
        have BK375 := n0_
        have HB := n1_
        clear n0_ n1_
        refine start_ (n := 27) (S := fun w' => w'.cell? ⟨gb375, 0, none⟩ = some (.int .i64 a0_0) ∧ w'.cell? ⟨gb375, 1, none⟩ = some (.int .i64 a0_1) ∧ w'.cell? ⟨gb375, 2, none⟩ = some (.bool a0_2) ∧ w'.cell? ⟨gb375, 3, none⟩ = some (.slice A0_3 l0_3.length c0_3)) (ds := []) #[false, false, false, false, false, false, false, false, false, false, false, false, false, false, false, false, false, false, false, false, false, false, false, false, false, false, false] (by kernel_rfl) rfl rfl ⟨(blk_cell BK375.out 0).trans rfl, (blk_cell BK375.out 1).trans rfl, (blk_cell BK375.out 2).trans rfl, (blk_cell BK375.out 3).trans rfl⟩ (fun hHeld => ?_); refine with_tabW assessorlaw51_DeadlinesFactors.tab7 assessorlaw51_DeadlinesFactors.bits7 (fun HT_ HW_ => ?_)
        generalize w28.drew = w29 at BK375 HB hHeld ⊢
        refine pure_ (i := 1) (N := some 39) (v := ?_) (a' := ?_) #[false, true, false, false, false, false, false, false, false, false, false, false, false, false, false, false, false, false, false, false, false, false, false, false, false, false, false] rfl rfl (any_of HT_.out (by kernel_rfl)) (fun _ _ _ h => h) (Or.inl ⟨by rfl, ?_⟩) ?_ ?_
        rotate_left
        ·intro w'
         go_simp
         with_reducible rfl
        rotate_left
        ·simp only [Act.put, sA, sZ, sS, i64_w]
         rfl
        refine pure_ (i := 4) (N := some 42) (v := ?_) (a' := ?_) #[false, true, false, false, true, false, false, false, false, false, false, false, false, false, false, false, false, false, false, false, false, false, false, false, false, false, false] rfl rfl (any_of HT_.out (by kernel_rfl)) (fun _ _ _ h => h) (Or.inl ⟨by rfl, ?_⟩) ?_ ?_
        rotate_left
        ·intro w'
         go_simp
         with_reducible rfl
        rotate_left
        ·simp only [Act.put, sA, sZ, sS, i64_w]
         rfl
        refine take_ (i := 0) (N := some 38) (v := ?_) (a' := ?_) #[true, true, false, false, true, false, false, false, false, false, false, false, false, false, false, false, false, false, false, false, false, false, false, false, false, false, false] rfl rfl (take_ofW HT_.out HW_.out (by kernel_rfl)) (fun _ _ _ h => h) (Or.inl ⟨by rfl, ?_⟩) hHeld ?_ ?_
        rotate_left
        ·rintro w' ⟨s0, s1, s2, s3⟩
         go_simp
         with_reducible rfl
        rotate_left
        ·simp only [Act.put, sA, sZ, sS, i64_w]
         rfl
        refine take_ (i := 3) (N := some 41) (v := ?_) (a' := ?_) #[true, true, false, true, true, false, false, false, false, false, false, false, false, false, false, false, false, false, false, false, false, false, false, false, false, false, false] rfl rfl (take_ofW HT_.out HW_.out (by kernel_rfl)) (fun _ _ _ h => h) (Or.inl ⟨by rfl, ?_⟩) hHeld ?_ ?_
        rotate_left
        ·rintro w' ⟨s0, s1, s2, s3⟩
         go_simp
         with_reducible rfl
        rotate_left
        ·simp only [Act.put, sA, sZ, sS, i64_w]
         rfl
        refine one_ (i := 2) (N := some 40) #[true, true, true, true, true, false, false, false, false, false, false, false, false, false, false, false, false, false, false, false, false, false, false, false, false, false, false] rfl rfl (one_of HT_.out (by kernel_rfl)) (by decide) (fun K hK => ?_)
        refine goes_ Try.func11 (by kernel_rfl) rfl #[.agg #[.int .i64 a0_0, .int .i64 a0_1, .bool a0_2, .slice A0_3 l0_3.length c0_3], .int .i64 a1] (by rfl) rfl rfl (by (try simp only [List.map_toArray, List.map_cons, List.map_nil]); first | done | rfl | (simp only [List.length_drop, List.length_take]; rfl)) ?_
        with_reducible refine (deadlines_Factor.calls kj7 a0_0 a0_1 a0_2 _ _ l0_3 a1 t381 t382 _ ?side1 ?side2 A17.out).mono ?_
        (case side1 => repeat (first | exact (Kd.C_below HR0_3.out HB.out) | (with_reducible refine Kd.C_alloc ?_ _) | (with_reducible refine Kd.C_drewN ?_ _) | (with_reducible refine Kd.C_drew ?_)))
        (case side2 => exact HC0_3.out)
        rintro e w30 ⟨rfl, hb⟩
        refine ⟨_, rfl, ?_⟩
        have n0_ := Aside0.mk (blk_below (g := gb375) (o := .cells #[.int .i64 a0_0, .int .i64 a0_1, .bool a0_2, .slice A0_3 l0_3.length c0_3] 24 (0, 0)) (by (with_reducible repeat (first | refine blk_drewN ?_ _ | refine blk_drew ?_ | refine blk_alloc ?_ _)); exact BK375.out) hb)
        have n1_ := Aside0.mk (below_step (by repeat (first | (with_reducible first | exact HB.out | apply below_alloc | apply pw_below_drewN | apply below_drew1 | refine below_set ?_ GE375.out) | exact HB.out)) hb)
        clear BK375
        clear HB
        have BK375 := n0_
        have HB := n1_
        clear n0_ n1_
        (try clear hb)
        (try clear hb2)
        (try clear hk)
        (try clear hi)
        refine hK.out _ _ ⟨(blk_cell BK375.out 0).trans rfl, (blk_cell BK375.out 1).trans rfl, (blk_cell BK375.out 2).trans rfl, (blk_cell BK375.out 3).trans rfl⟩ (fun hHeld => ?_)
        clear hK K
        refine norm_ (a' := ?_) ?_ ?_
        rotate_left
        ·show Act.put _ (some 40) _ = _
         simp only [Act.put, sA, sZ, sS, i64_w]
         rfl
        refine one_ (i := 5) (N := some 43) #[true, true, true, true, true, true, false, false, false, false, false, false, false, false, false, false, false, false, false, false, false, false, false, false, false, false, false] rfl rfl (one_of HT_.out (by kernel_rfl)) (by decide) (fun K hK => ?_)
        refine goes_ Try.func25 (by kernel_rfl) rfl #[.agg #[.int .i64 a0_0, .int .i64 a0_1, .bool a0_2, .slice A0_3 l0_3.length c0_3], .int .i64 a1] (by rfl) rfl rfl (by (try simp only [List.map_toArray, List.map_cons, List.map_nil]); first | done | rfl | (simp only [List.length_drop, List.length_take]; rfl)) ?_
        with_reducible refine (assessorref51_Factor.calls kj7 a0_0 a0_1 a0_2 _ _ l0_3 a1 t383 t384 _ ?side1 ?side2 A18.out).mono ?_
        (case side1 => repeat (first | exact (Kd.C_below HR0_3.out HB.out) | (with_reducible refine Kd.C_alloc ?_ _) | (with_reducible refine Kd.C_drewN ?_ _) | (with_reducible refine Kd.C_drew ?_)))
        (case side2 => exact HC0_3.out)
        rintro e w31 ⟨rfl, hb⟩
        refine ⟨_, rfl, ?_⟩
        have n0_ := Aside0.mk (blk_below (g := gb375) (o := .cells #[.int .i64 a0_0, .int .i64 a0_1, .bool a0_2, .slice A0_3 l0_3.length c0_3] 24 (0, 0)) (by (with_reducible repeat (first | refine blk_drewN ?_ _ | refine blk_drew ?_ | refine blk_alloc ?_ _)); exact BK375.out) hb)
        have n1_ := Aside0.mk (below_step (by repeat (first | (with_reducible first | exact HB.out | apply below_alloc | apply pw_below_drewN | apply below_drew1 | refine below_set ?_ GE375.out) | exact HB.out)) hb)
        clear BK375
        clear HB
        have BK375 := n0_
        have HB := n1_
        clear n0_ n1_
        (try clear hb)
        (try clear hb2)
        (try clear hk)
        (try clear hi)
        refine hK.out _ _ ⟨(blk_cell BK375.out 0).trans rfl, (blk_cell BK375.out 1).trans rfl, (blk_cell BK375.out 2).trans rfl, (blk_cell BK375.out 3).trans rfl⟩ (fun hHeld => ?_)
        clear hK K
        refine norm_ (a' := ?_) ?_ ?_
        rotate_left
        ·show Act.put _ (some 43) _ = _
         simp only [Act.put, sA, sZ, sS, i64_w]
         rfl
        refine pure_ (i := 6) (N := some 44) (v := ?_) (a' := ?_) #[true, true, true, true, true, true, true, false, false, false, false, false, false, false, false, false, false, false, false, false, false, false, false, false, false, false, false] rfl rfl (any_of HT_.out (by kernel_rfl)) (fun _ _ _ h => h) (Or.inl ⟨by rfl, ?_⟩) ?_ ?_
        rotate_left
        ·intro w'
         go_simp
         with_reducible rfl
        rotate_left
        ·simp only [Act.put, sA, sZ, sS, i64_w]
         rfl
        refine pure_ (i := 7) (N := some 45) (v := ?_) (a' := ?_) #[true, true, true, true, true, true, true, true, false, false, false, false, false, false, false, false, false, false, false, false, false, false, false, false, false, false, false] rfl rfl (any_of HT_.out (by kernel_rfl)) (fun _ _ _ h => h) (Or.inl ⟨by rfl, ?_⟩) ?_ ?_
        rotate_left
        ·intro w'
         go_simp
         with_reducible rfl
        rotate_left
        ·simp only [Act.put, sA, sZ, sS, i64_w]
         rfl
        refine pure_ (i := 8) (N := some 46) (v := ?_) (a' := ?_) #[true, true, true, true, true, true, true, true, true, false, false, false, false, false, false, false, false, false, false, false, false, false, false, false, false, false, false] rfl rfl (any_of HT_.out (by kernel_rfl)) (fun _ _ _ h => h) (Or.inl ⟨by rfl, ?_⟩) ?_ ?_
        rotate_left
        ·intro w'
         go_simp
         with_reducible rfl
        rotate_left
        ·simp only [Act.put, sA, sZ, sS, i64_w]
         rfl
        refine pure_ (i := 9) (N := some 47) (v := ?_) (a' := ?_) #[true, true, true, true, true, true, true, true, true, true, false, false, false, false, false, false, false, false, false, false, false, false, false, false, false, false, false] rfl rfl (any_of HT_.out (by kernel_rfl)) (fun _ _ _ h => h) (Or.inl ⟨by rfl, ?_⟩) ?_ ?_
        rotate_left
        ·intro w'
         go_simp
         with_reducible rfl
        rotate_left
        ·simp only [Act.put, sA, sZ, sS, i64_w]
         rfl
        refine pure_ (i := 10) (N := some 48) (v := ?_) (a' := ?_) #[true, true, true, true, true, true, true, true, true, true, true, false, false, false, false, false, false, false, false, false, false, false, false, false, false, false, false] rfl rfl (any_of HT_.out (by kernel_rfl)) (fun _ _ _ h => h) (Or.inl ⟨by rfl, ?_⟩) ?_ ?_
        rotate_left
        ·intro w'
         go_simp
         with_reducible rfl
        rotate_left
        ·simp only [Act.put, sA, sZ, sS, i64_w]
         rfl
        refine pure_ (i := 11) (N := some 49) (v := ?_) (a' := ?_) #[true, true, true, true, true, true, true, true, true, true, true, true, false, false, false, false, false, false, false, false, false, false, false, false, false, false, false] rfl rfl (any_of HT_.out (by kernel_rfl)) (fun _ _ _ h => h) (Or.inl ⟨by rfl, ?_⟩) ?_ ?_
        rotate_left
        ·intro w'
         go_simp
         with_reducible rfl
        rotate_left
        ·simp only [Act.put, sA, sZ, sS, i64_w]
         rfl
        refine pure_ (i := 12) (N := some 50) (v := ?_) (a' := ?_) #[true, true, true, true, true, true, true, true, true, true, true, true, true, false, false, false, false, false, false, false, false, false, false, false, false, false, false] rfl rfl (any_of HT_.out (by kernel_rfl)) (fun _ _ _ h => h) (Or.inl ⟨by rfl, ?_⟩) ?_ ?_
        rotate_left
        ·intro w'
         go_simp
         with_reducible rfl
        rotate_left
        ·simp only [Act.put, sA, sZ, sS, i64_w]
         rfl
        refine pure_ (i := 13) (N := some 51) (v := ?_) (a' := ?_) #[true, true, true, true, true, true, true, true, true, true, true, true, true, true, false, false, false, false, false, false, false, false, false, false, false, false, false] rfl rfl (any_of HT_.out (by kernel_rfl)) (fun _ _ _ h => h) (Or.inl ⟨by rfl, ?_⟩) ?_ ?_
        rotate_left
        ·intro w'
         go_simp
         with_reducible rfl
        rotate_left
        ·simp only [Act.put, sA, sZ, sS, i64_w]
         rfl
        refine pure_ (i := 14) (N := some 52) (v := ?_) (a' := ?_) #[true, true, true, true, true, true, true, true, true, true, true, true, true, true, true, false, false, false, false, false, false, false, false, false, false, false, false] rfl rfl (any_of HT_.out (by kernel_rfl)) (fun _ _ _ h => h) (Or.inl ⟨by rfl, ?_⟩) ?_ ?_
        rotate_left
        ·intro w'
         go_simp
         with_reducible rfl
        rotate_left
        ·simp only [Act.put, sA, sZ, sS, i64_w]
         rfl
        refine pure_ (i := 15) (N := some 53) (v := ?_) (a' := ?_) #[true, true, true, true, true, true, true, true, true, true, true, true, true, true, true, true, false, false, false, false, false, false, false, false, false, false, false] rfl rfl (any_of HT_.out (by kernel_rfl)) (fun _ _ _ h => h) (Or.inl ⟨by rfl, ?_⟩) ?_ ?_
        rotate_left
        ·intro w'
         go_simp
         with_reducible rfl
        rotate_left
        ·simp only [Act.put, sA, sZ, sS, i64_w]
         rfl
        refine pure_ (i := 16) (N := some 54) (v := ?_) (a' := ?_) #[true, true, true, true, true, true, true, true, true, true, true, true, true, true, true, true, true, false, false, false, false, false, false, false, false, false, false] rfl rfl (any_of HT_.out (by kernel_rfl)) (fun _ _ _ h => h) (Or.inl ⟨by rfl, ?_⟩) ?_ ?_
        rotate_left
        ·intro w'
         go_simp
         with_reducible rfl
        rotate_left
        ·simp only [Act.put, sA, sZ, sS, i64_w]
         rfl
        refine pure_ (i := 17) (N := some 55) (v := ?_) (a' := ?_) #[true, true, true, true, true, true, true, true, true, true, true, true, true, true, true, true, true, true, false, false, false, false, false, false, false, false, false] rfl rfl (any_of HT_.out (by kernel_rfl)) (fun _ _ _ h => h) (Or.inl ⟨by rfl, ?_⟩) ?_ ?_
        rotate_left
        ·intro w'
         go_simp
         with_reducible rfl
        rotate_left
        ·simp only [Act.put, sA, sZ, sS, i64_w]
         rfl
        refine pure_ (i := 18) (N := some 56) (v := ?_) (a' := ?_) #[true, true, true, true, true, true, true, true, true, true, true, true, true, true, true, true, true, true, true, false, false, false, false, false, false, false, false] rfl rfl (any_of HT_.out (by kernel_rfl)) (fun _ _ _ h => h) (Or.inl ⟨by rfl, ?_⟩) ?_ ?_
        rotate_left
        ·intro w'
         go_simp
         with_reducible rfl
        rotate_left
        ·simp only [Act.put, sA, sZ, sS, i64_w]
         rfl
        refine pure_ (i := 19) (N := some 57) (v := ?_) (a' := ?_) #[true, true, true, true, true, true, true, true, true, true, true, true, true, true, true, true, true, true, true, true, false, false, false, false, false, false, false] rfl rfl (any_of HT_.out (by kernel_rfl)) (fun _ _ _ h => h) (Or.inl ⟨by rfl, ?_⟩) ?_ ?_
        rotate_left
        ·intro w'
         go_simp
         with_reducible rfl
        rotate_left
        ·simp only [Act.put, sA, sZ, sS, i64_w]
         rfl
        refine pure_ (i := 21) (N := some 59) (v := ?_) (a' := ?_) #[true, true, true, true, true, true, true, true, true, true, true, true, true, true, true, true, true, true, true, true, false, true, false, false, false, false, false] rfl rfl (any_of HT_.out (by kernel_rfl)) (fun _ _ _ h => h) (Or.inl ⟨by rfl, ?_⟩) ?_ ?_
        rotate_left
        ·intro w'
         go_simp
         with_reducible rfl
        rotate_left
        ·simp only [Act.put, sA, sZ, sS, i64_w]
         rfl
        refine pure_ (i := 22) (N := some 60) (v := ?_) (a' := ?_) #[true, true, true, true, true, true, true, true, true, true, true, true, true, true, true, true, true, true, true, true, false, true, true, false, false, false, false] rfl rfl (any_of HT_.out (by kernel_rfl)) (fun _ _ _ h => h) (Or.inl ⟨by rfl, ?_⟩) ?_ ?_
        rotate_left
        ·intro w'
         go_simp
         with_reducible rfl
        rotate_left
        ·simp only [Act.put, sA, sZ, sS, i64_w]
         rfl
        refine one_ (i := 20) (N := some 58) #[true, true, true, true, true, true, true, true, true, true, true, true, true, true, true, true, true, true, true, true, true, true, true, false, false, false, false] rfl rfl (one_of HT_.out (by kernel_rfl)) (by decide) (fun K hK => ?_)
        refine goes_ Try.func21 (by kernel_rfl) rfl #[.slice A3 l3.length c3, .int .i64 a4] (by rfl) rfl rfl (by (try simp only [List.map_toArray, List.map_cons, List.map_nil]); first | done | rfl | (simp only [List.length_drop, List.length_take]; rfl)) ?_
        with_reducible refine (deadlines_Spend.calls kj7 _ _ l3 a4 t385 _ ?side1 ?side2 A22.out).mono ?_
        (case side1 => repeat (first | exact (Kd.C_below HR3.out HB.out) | (with_reducible refine Kd.C_alloc ?_ _) | (with_reducible refine Kd.C_drewN ?_ _) | (with_reducible refine Kd.C_drew ?_)))
        (case side2 => exact HC3.out)
        rintro e w32 ⟨v386, rfl, ho0, hb⟩
        refine ⟨_, rfl, ?_⟩
        have n0_ := Aside0.mk (Kd.R_lower ho0 (below_size (by repeat (first | (with_reducible first | exact HB.out | apply below_alloc | apply pw_below_drewN | apply below_drew1 | refine below_set ?_ GE375.out) | exact HB.out))))
        have n1_ := Aside0.mk (blk_below (g := gb375) (o := .cells #[.int .i64 a0_0, .int .i64 a0_1, .bool a0_2, .slice A0_3 l0_3.length c0_3] 24 (0, 0)) (by (with_reducible repeat (first | refine blk_drewN ?_ _ | refine blk_drew ?_ | refine blk_alloc ?_ _)); exact BK375.out) hb)
        have n2_ := Aside0.mk (below_step (by repeat (first | (with_reducible first | exact HB.out | apply below_alloc | apply pw_below_drewN | apply below_drew1 | refine below_set ?_ GE375.out) | exact HB.out)) hb)
        clear BK375
        clear HB
        have HO387 := n0_
        have BK375 := n1_
        have HB := n2_
        clear n0_ n1_ n2_
        (try clear hb)
        (try clear hb2)
        (try clear hk)
        (try clear hi)
        (try clear ho0)
        refine hK.out _ _ ⟨(blk_cell BK375.out 0).trans rfl, (blk_cell BK375.out 1).trans rfl, (blk_cell BK375.out 2).trans rfl, (blk_cell BK375.out 3).trans rfl⟩ (fun hHeld => ?_)
        clear hK K
        refine norm_ (a' := ?_) ?_ ?_
        rotate_left
        ·show Act.put _ (some 58) _ = _
         simp only [Act.put, sA, sZ, sS, i64_w]
         rfl
        refine one_ (i := 23) (N := some 61) #[true, true, true, true, true, true, true, true, true, true, true, true, true, true, true, true, true, true, true, true, true, true, true, true, false, false, false] rfl rfl (one_of HT_.out (by kernel_rfl)) (by decide) (fun K hK => ?_)
        refine goes_ Try.func27 (by kernel_rfl) rfl #[.slice A3 l3.length c3, .int .i64 a4] (by rfl) rfl rfl (by (try simp only [List.map_toArray, List.map_cons, List.map_nil]); first | done | rfl | (simp only [List.length_drop, List.length_take]; rfl)) ?_
        with_reducible refine (assessorref51_Spend.calls kj7 _ _ l3 a4 t388 _ ?side1 ?side2 A23.out).mono ?_
        (case side1 => repeat (first | exact (Kd.C_below HR3.out HB.out) | (with_reducible refine Kd.C_alloc ?_ _) | (with_reducible refine Kd.C_drewN ?_ _) | (with_reducible refine Kd.C_drew ?_)))
        (case side2 => exact HC3.out)
        rintro e w33 ⟨v389, rfl, ho0, hb⟩
        refine ⟨_, rfl, ?_⟩
        have n0_ := Aside0.mk (Kd.R_elder' (by (with_reducible repeat (first | apply Kd.R_alloc | apply Kd.R_drewN | apply Kd.R_drew)); exact HO387.out) (Kd.R_base ho0) hb)
        have n1_ := Aside0.mk (Kd.R_lower (Kd.R_new' ho0 (Kd.R_lt (by (with_reducible repeat (first | apply Kd.R_alloc | apply Kd.R_drewN | apply Kd.R_drew)); exact HO387.out))) (below_size (by repeat (first | (with_reducible first | exact HB.out | apply below_alloc | apply pw_below_drewN | apply below_drew1 | refine below_set ?_ GE375.out) | exact HB.out))))
        have n2_ := Aside0.mk (blk_below (g := gb375) (o := .cells #[.int .i64 a0_0, .int .i64 a0_1, .bool a0_2, .slice A0_3 l0_3.length c0_3] 24 (0, 0)) (by (with_reducible repeat (first | refine blk_drewN ?_ _ | refine blk_drew ?_ | refine blk_alloc ?_ _)); exact BK375.out) hb)
        have n3_ := Aside0.mk (below_step (by repeat (first | (with_reducible first | exact HB.out | apply below_alloc | apply pw_below_drewN | apply below_drew1 | refine below_set ?_ GE375.out) | exact HB.out)) hb)
        clear HO387
        clear BK375
        clear HB
        have HO387 := n0_
        have HO390 := n1_
        have BK375 := n2_
        have HB := n3_
        clear n0_ n1_ n2_ n3_
        (try clear hb)
        (try clear hb2)
        (try clear hk)
        (try clear hi)
        (try clear ho0)
        obtain ⟨Ao34, co34, eo34⟩ := Kd.R_slice HO387.out
        (first | subst eo34 | (injection eo34 with f1_ f2_ f3_; have f4_ := f1_.symm; have f5_ := f3_.symm; clear f1_ f2_ f3_; subst f4_; subst f5_))
        obtain ⟨Ao35, co35, eo35⟩ := Kd.R_slice HO390.out
        (first | subst eo35 | (injection eo35 with f1_ f2_ f3_; have f4_ := f1_.symm; have f5_ := f3_.symm; clear f1_ f2_ f3_; subst f4_; subst f5_))
        refine hK.out _ _ ⟨(blk_cell BK375.out 0).trans rfl, (blk_cell BK375.out 1).trans rfl, (blk_cell BK375.out 2).trans rfl, (blk_cell BK375.out 3).trans rfl⟩ (fun hHeld => ?_)
        clear hK K
        refine norm_ (a' := ?_) ?_ ?_
        rotate_left
        ·show Act.put _ (some 61) _ = _
         simp only [Act.put, sA, sZ, sS, i64_w]
         rfl
        refine one_ (i := 24) (N := some 62) #[true, true, true, true, true, true, true, true, true, true, true, true, true, true, true, true, true, true, true, true, true, true, true, true, true, false, false] rfl rfl (one_of HT_.out (by kernel_rfl)) (by decide) (fun K hK => ?_)
        refine goes_ Try.func26 (by kernel_rfl) rfl #[.slice Ao34 t385.length co34, .slice Ao35 t388.length co35] (by rfl) rfl rfl (by (try simp only [List.map_toArray, List.map_cons, List.map_nil]); first | done | rfl | (simp only [List.length_drop, List.length_take]; rfl)) ?_
        with_reducible refine (assessorref49_Ints.calls kj7 _ _ t385 _ _ t388 t391 _ ?side1 ?side2 ?side3 ?side4 A24.out).mono ?_
        (case side1 => repeat (first | exact (Kd.R_reads' HO387.out).2.2 | (with_reducible refine Kd.C_alloc ?_ _) | (with_reducible refine Kd.C_drewN ?_ _) | (with_reducible refine Kd.C_drew ?_)))
        (case side2 => exact (Kd.R_reads' HO387.out).2.1)
        (case side3 => repeat (first | exact (Kd.R_reads' HO390.out).2.2 | (with_reducible refine Kd.C_alloc ?_ _) | (with_reducible refine Kd.C_drewN ?_ _) | (with_reducible refine Kd.C_drew ?_)))
        (case side4 => exact (Kd.R_reads' HO390.out).2.1)
        rintro e w' ⟨rfl, ⟨nd, rfl⟩⟩
        refine ⟨_, rfl, ?_⟩
        refine hK.out _ _ ⟨(blk_cell BK375.out 0).trans rfl, (blk_cell BK375.out 1).trans rfl, (blk_cell BK375.out 2).trans rfl, (blk_cell BK375.out 3).trans rfl⟩ (fun hHeld => ?_)
        clear hK K
        refine norm_ (a' := ?_) ?_ ?_
        rotate_left
        ·show Act.put _ (some 62) _ = _
         simp only [Act.put, sA, sZ, sS, i64_w]
         rfl
        refine pure_ (i := 25) (N := some 63) (v := ?_) (a' := ?_) #[true, true, true, true, true, true, true, true, true, true, true, true, true, true, true, true, true, true, true, true, true, true, true, true, true, true, false] rfl rfl (any_of HT_.out (by kernel_rfl)) (fun _ _ _ h => h) (Or.inl ⟨by rfl, ?_⟩) ?_ ?_
        rotate_left
        ·intro w'
         go_simp
         with_reducible rfl
        rotate_left
        ·simp only [Act.put, sA, sZ, sS, i64_w]
         rfl
        refine pure_ (i := 26) (N := some 10) (v := ?_) (a' := ?_) #[true, true, true, true, true, true, true, true, true, true, true, true, true, true, true, true, true, true, true, true, true, true, true, true, true, true, true] rfl rfl (any_of HT_.out (by kernel_rfl)) (fun _ _ _ h => h) (Or.inl ⟨by rfl, ?_⟩) ?_ ?_
        rotate_left
        ·intro w'
         go_simp
         with_reducible rfl
        rotate_left
        ·simp only [Act.put, sA, sZ, sS, i64_w]
         rfl
        refine done_ (done_of HT_.out (by kernel_rfl)) ?_
        try go_wp2
        go_ret
        exact ⟨by first | rfl | (simp [errW_none, errW_some] <;> rfl) | (simp [*, errW_none, errW_some] <;> rfl), by repeat (first | (with_reducible first | exact HB.out | apply below_alloc | apply pw_below_drewN | apply below_drew1 | refine below_set ?_ GE375.out) | exact HB.out)⟩
       ·rw [if_neg c21] at H
        have c21b0 : (t378 == t380) = false := by simpa using c21
        (try (have c21b1 : decide (t378 = t380) = false := by simpa using c21))
        (try (have c21b2 : (t378 == t380) = false := by simpa using c21))
        (try (have c21b3 : ¬ (t378 = t380) := by simpa using c21))
        clear c21
        exact absurd H (by simp)
      ·rw [if_neg c20] at H
       have c20b0 : (t377 == t379) = false := beq_eq_false_iff_ne.mpr c20
       have c20b1 : (t377 != t379) = true := bne_iff_ne.mpr c20
       exact absurd H (by simp)
     ·rw [if_neg c19] at H
      have c19b0 : (t381 == t383 && (t382 == t384)) = false := by simpa using c19
      (try (have c19b1 : decide (t381 = t383 && (t382 == t384)) = false := by simpa using c19))
      (try (have c19b2 : (t381 == t383 && (t382 == t384)) = false := by simpa using c19))
      (try (have c19b3 : ¬ (t381 = t383 && (t382 == t384)) := by simpa using c19))
      clear c19
      exact absurd H (by simp)
 ·replace c7 := Bool.eq_false_iff.mpr c7
  subst c7
  have H1 : (none) = some r := by rw [if_neg (show ¬ (false = true) by decide)] at H; exact H
  clear H
  have H := H1
  clear H1
  exact absurd H (by simp)

end Go.Proofs.Ytbehhijmcnoeeaa.XA
