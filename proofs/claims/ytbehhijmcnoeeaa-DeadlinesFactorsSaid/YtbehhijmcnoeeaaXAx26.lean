/- Functions of the given Go program as Lean functions, each with a proof that the machine's call answers so; conditions: the premises written in each. -/
import Derived.Test.YtbehhijmcnoeeaaXAx0
import Derived.Test.YtbehhijmcnoeeaaXAx10
import Derived.Test.YtbehhijmcnoeeaaXAx12
import Derived.Test.YtbehhijmcnoeeaaXAx13
import Derived.Test.YtbehhijmcnoeeaaXAx25
namespace Go.Proofs.Ytbehhijmcnoeeaa.XA
open Go.RowKit Go.Proofs.YtbehhijmcnoeeaaW.PrintWords Go.Proofs.YtbehhijmcnoeeaaW.PrintLast Go.Proofs.YtbehhijmcnoeeaaW.PrintMore
attribute [local go_sem] max2_int min2_int max_two min_two max_three min_three max_four min_four   -- for this text's walks alone
set_option linter.unusedVariables false
set_option linter.unusedSimpArgs false

/-! ### assessorref51_Until: function 24 -/
mutual
def assessorref51_Until.j0 : Nat → Int → Bool → Int → Int → Bool → List (S34) → Option (Int × Bool)
 | 0, _, _, _, _, _, _ => none
 | k + 1, x1, x26, x354000, x354001, x354002, x354003 => if x26 = true then (some (0, false)) else (assessorref51_Until.l0 k x1 0 1099511627776 x354000 x354001 x354002 x354003)
def assessorref51_Until.l0 : Nat → Int → Int → Int → Int → Int → Bool → List (S34) → Option (Int × Bool)
 | 0, _, _, _, _, _, _, _ => none
 | k + 1, x1, x6, x7, x354000, x354001, x354002, x354003 => if (wrap64 (x7 - x6)) > 1 then ((assessorref51_parts.f k x354000 x354001 x354002 x354003 (wrap64 (Int.tdiv (wrap64 (x6 + x7)) 2))).bind fun t356 => (if t356 ≥ (wrap64 (100 * x1)) then (assessorref51_Until.l0 k x1 (wrap64 (Int.tdiv (wrap64 (x6 + x7)) 2)) x7 x354000 x354001 x354002 x354003) else (assessorref51_Until.l0 k x1 x6 (wrap64 (Int.tdiv (wrap64 (x6 + x7)) 2)) x354000 x354001 x354002 x354003))) else (some (x6, true))
end
def assessorref51_Until.f (k : Nat) (a0_0 : Int) (a0_1 : Int) (a0_2 : Bool) (l0_3 : List (S34)) (a1 : Int) : Option (Int × Bool) := (assessorref51_Valid.f k a0_0 a0_1 a0_2 l0_3).bind fun t354 => (if t354 = true then (if a1 < 0 then (assessorref51_Until.j0 k a1 true a0_0 a0_1 a0_2 l0_3) else (if a1 > 100 then (assessorref51_Until.j0 k a1 true a0_0 a0_1 a0_2 l0_3) else ((assessorref51_parts.f k a0_0 a0_1 a0_2 l0_3 1099511627776).bind fun t355 => (assessorref51_Until.j0 k a1 (decide (t355 ≥ (wrap64 (100 * a1)))) a0_0 a0_1 a0_2 l0_3)))) else (assessorref51_Until.j0 k a1 true a0_0 a0_1 a0_2 l0_3))
theorem assessorref51_Until.mono_l : ∀ k, (∀ y0 y1 y2 y3 y4 y5, LeO (assessorref51_Until.j0 k y0 y1 y2 y3 y4 y5) (assessorref51_Until.j0 (k + 1) y0 y1 y2 y3 y4 y5)) ∧ (∀ y0 y1 y2 y3 y4 y5 y6, LeO (assessorref51_Until.l0 k y0 y1 y2 y3 y4 y5 y6) (assessorref51_Until.l0 (k + 1) y0 y1 y2 y3 y4 y5 y6))
 | 0 => ⟨fun _ _ _ _ _ _ r h => by simp [assessorref51_Until.j0] at h, fun _ _ _ _ _ _ _ r h => by simp [assessorref51_Until.l0] at h⟩
 | k + 1 => by
  obtain ⟨ih0, ih1⟩ := assessorref51_Until.mono_l k
  refine ⟨?_, ?_⟩
  ·intro y0 y1 y2 y3 y4 y5
   unfold assessorref51_Until.j0
   repeat' first
   | (with_reducible exact ih0 _ _ _ _ _ _)
   | (with_reducible exact ih1 _ _ _ _ _ _ _)
   | (with_reducible exact assessorref51_Valid.mono _ _ _ _ _)
   | (with_reducible exact assessorref51_parts.mono _ _ _ _ _ _)
   | (with_reducible exact LeO.refl _)
   | (with_reducible exact LeO.none _)
   | (with_reducible refine LeO.ite ?_ ?_)
   | (with_reducible refine LeO.bind ?_ (fun _ => ?_))
   | exact ih0 _ _ _ _ _ _
   | exact ih1 _ _ _ _ _ _ _
   | exact assessorref51_Valid.mono _ _ _ _ _
   | exact assessorref51_parts.mono _ _ _ _ _ _
   | exact LeO.none _
   | refine LeO.ite ?_ ?_
   | refine LeO.bind ?_ (fun _ => ?_)
  ·intro y0 y1 y2 y3 y4 y5 y6
   unfold assessorref51_Until.l0
   repeat' first
   | (with_reducible exact ih0 _ _ _ _ _ _)
   | (with_reducible exact ih1 _ _ _ _ _ _ _)
   | (with_reducible exact assessorref51_Valid.mono _ _ _ _ _)
   | (with_reducible exact assessorref51_parts.mono _ _ _ _ _ _)
   | (with_reducible exact LeO.refl _)
   | (with_reducible exact LeO.none _)
   | (with_reducible refine LeO.ite ?_ ?_)
   | (with_reducible refine LeO.bind ?_ (fun _ => ?_))
   | exact ih0 _ _ _ _ _ _
   | exact ih1 _ _ _ _ _ _ _
   | exact assessorref51_Valid.mono _ _ _ _ _
   | exact assessorref51_parts.mono _ _ _ _ _ _
   | exact LeO.none _
   | refine LeO.ite ?_ ?_
   | refine LeO.bind ?_ (fun _ => ?_)
theorem assessorref51_Until.mono : ∀ a0 a1 a2 a3 a4 k, LeO (assessorref51_Until.f k a0 a1 a2 a3 a4) (assessorref51_Until.f (k + 1) a0 a1 a2 a3 a4) := by
 intro a0 a1 a2 a3 a4 k
 obtain ⟨ih0, ih1⟩ := assessorref51_Until.mono_l k
 unfold assessorref51_Until.f
 repeat' first
   | (with_reducible exact ih0 _ _ _ _ _ _)
   | (with_reducible exact ih1 _ _ _ _ _ _ _)
   | (with_reducible exact assessorref51_Valid.mono _ _ _ _ _)
   | (with_reducible exact assessorref51_parts.mono _ _ _ _ _ _)
   | (with_reducible exact LeO.refl _)
   | (with_reducible exact LeO.none _)
   | (with_reducible refine LeO.ite ?_ ?_)
   | (with_reducible refine LeO.bind ?_ (fun _ => ?_))
   | exact ih0 _ _ _ _ _ _
   | exact ih1 _ _ _ _ _ _ _
   | exact assessorref51_Valid.mono _ _ _ _ _
   | exact assessorref51_parts.mono _ _ _ _ _ _
   | exact LeO.none _
   | refine LeO.ite ?_ ?_
   | refine LeO.bind ?_ (fun _ => ?_)
set_option maxHeartbeats 8000000 in
set_option maxRecDepth 100000 in
theorem assessorref51_Until.calls (k : Nat) (a0_0 : Int) (a0_1 : Int) (a0_2 : Bool) (A0_3 : Option Addr) (c0_3 : Nat) (l0_3 : List (S34)) (a1 : Int) (r1 : Int) (r2 : Bool) (w : World) (hr0_3 : Kd.C k34 w A0_3 l0_3.length l0_3) (hc0_3 : l0_3.length ≤ c0_3) (h : assessorref51_Until.f k a0_0 a0_1 a0_2 l0_3 a1 = some (r1, r2)) :
  Calls Try.prog 24 #[.agg #[.int .i64 a0_0, .int .i64 a0_1, .bool a0_2, .slice A0_3 l0_3.length c0_3], .int .i64 a1] w fun e w' => e = .returned (.tuple #[.int .i64 r1, .bool r2]) ∧ Below w.heap.size w w' := by
 have hu24 := Try.underlying24
 have HR0_3 := Aside0.mk hr0_3
 have HC0_3 := Aside0.mk hc0_3
 clear hr0_3 hc0_3
 have HB := Aside0.mk (Below.refl w.heap.size w)
 have H : ((assessorref51_Valid.f k a0_0 a0_1 a0_2 l0_3).bind fun t354 => (if t354 = true then (if a1 < 0 then (assessorref51_Until.j0 k a1 true a0_0 a0_1 a0_2 l0_3) else (if a1 > 100 then (assessorref51_Until.j0 k a1 true a0_0 a0_1 a0_2 l0_3) else ((assessorref51_parts.f k a0_0 a0_1 a0_2 l0_3 1099511627776).bind fun t355 => (assessorref51_Until.j0 k a1 (decide (t355 ≥ (wrap64 (100 * a1)))) a0_0 a0_1 a0_2 l0_3)))) else (assessorref51_Until.j0 k a1 true a0_0 a0_1 a0_2 l0_3))) = some (r1, r2) := h
 clear h
 have HC3 := Aside0.mk H
 clear H
 go_enter Try.func24, Try.ntmps24
 go_upto_region 1 with (first | ((with_reducible refine gate_dst (N := 2) rfl ?_); refine box_event ?hg (N := 2) ?hd (cs := #[.int .i64 a0_0, .int .i64 a0_1, .bool a0_2, .slice A0_3 l0_3.length c0_3]) (t := 24) ?hr ?_; (case hd => rfl); (case hg => rfl); (case hr => first | (go_simp; done) | (go_simp; rfl)); intro gb353 hg w4 hbox hb; have n0_ := Aside0.mk (below_step (by repeat (first | (with_reducible first | exact HB.out | apply below_alloc | apply pw_below_drewN | apply below_drew1) | exact HB.out)) hb); have n1_ := Aside0.mk (hbox); have n2_ := Aside0.mk ((by rw [hg]; exact (below_size (by repeat (first | (with_reducible first | exact HB.out | apply below_alloc | apply pw_below_drewN | apply below_drew1) | exact HB.out))) : w.heap.size ≤ gb353)); have n3_ := Aside0.mk ((by rw [hg]; exact (below_size (by repeat (first | (with_reducible first | exact HB.out | apply below_alloc | apply pw_below_drewN | apply below_drew1) | exact HB.out))) : w.heap.size ≤ gb353)); clear HB; have HB := n0_; have BK353 := n1_; have GW353 := n2_; have GE353 := n3_; clear n0_ n1_ n2_ n3_; clear hb hbox hg))
 (try simp only [Act.put, List.setIfInBounds_toArray, List.set_cons_zero, List.set_cons_succ])
 go_cut [26] (fun v26 wc => ∃ (kq : Nat) (x26_2 : Bool), v26 = .bool x26_2 ∧ Aside0 (assessorref51_Until.j0 kq a1 x26_2 a0_0 a0_1 a0_2 l0_3 = some (r1, r2)) ∧ Aside0 (kq ≤ k) ∧ Aside0 (wc.heap[gb353]? = some (.cells #[.int .i64 a0_0, .int .i64 a0_1, .bool a0_2, (.slice A0_3 l0_3.length c0_3)] 24 (0, 0))) ∧ Aside0 (Below w.heap.size w wc))
 case first =>
  have H := HC3.out
  clear HC3
  replace H := Option.bind_eq_some_iff.mp H
  obtain ⟨t354, A50, H⟩ := H
  replace H : (if t354 = true then (if a1 < 0 then (assessorref51_Until.j0 k a1 true a0_0 a0_1 a0_2 l0_3) else (if a1 > 100 then (assessorref51_Until.j0 k a1 true a0_0 a0_1 a0_2 l0_3) else ((assessorref51_parts.f k a0_0 a0_1 a0_2 l0_3 1099511627776).bind fun t355 => (assessorref51_Until.j0 k a1 (decide (t355 ≥ (wrap64 (100 * a1)))) a0_0 a0_1 a0_2 l0_3)))) else (assessorref51_Until.j0 k a1 true a0_0 a0_1 a0_2 l0_3)) = some (r1, r2) := H
  have A5 := Aside0.mk A50
  clear A50
  by_cases c6 : t354 = true
  ·subst c6
   have H1 : (if a1 < 0 then (assessorref51_Until.j0 k a1 true a0_0 a0_1 a0_2 l0_3) else (if a1 > 100 then (assessorref51_Until.j0 k a1 true a0_0 a0_1 a0_2 l0_3) else ((assessorref51_parts.f k a0_0 a0_1 a0_2 l0_3 1099511627776).bind fun t355 => (assessorref51_Until.j0 k a1 (decide (t355 ≥ (wrap64 (100 * a1)))) a0_0 a0_1 a0_2 l0_3)))) = some (r1, r2) := by rw [if_pos rfl] at H; exact H
   clear H
   have H := H1
   clear H1
   by_cases c7 : a1 < 0
   ·rw [if_pos c7] at H
    have c7b0 : decide (a1 < 0) = true := decide_eq_true c7
    clear c7
    (first | rw [c7b0] | (simp only [i64_w, i32_w]; rw [c7b0]) | skip)
    have H' := Aside0.mk H
    clear H
    have hcz8_0 : w4.cell? ⟨gb353, 0, none⟩ = some (.int .i64 a0_0) := (blk_cell BK353.out 0).trans rfl
    have hcz8_1 : w4.cell? ⟨gb353, 1, none⟩ = some (.int .i64 a0_1) := (blk_cell BK353.out 1).trans rfl
    have hcz8_2 : w4.cell? ⟨gb353, 2, none⟩ = some (.bool a0_2) := (blk_cell BK353.out 2).trans rfl
    have hcz8_3 : w4.cell? ⟨gb353, 3, none⟩ = some (.slice A0_3 l0_3.length c0_3) := (blk_cell BK353.out 3).trans rfl
    have hfz8_0 := blk_frozen BK353.out 0
    have hfz8_1 := blk_frozen BK353.out 1
    have hfz8_2 := blk_frozen BK353.out 2
    have hfz8_3 := blk_frozen BK353.out 3
    go_wp2_with (first | ((with_reducible refine gate_callee (f := 16) rfl ?_); refine goesL_ (some 10) rfl rfl Try.func16 (by kernel_rfl) rfl #[.agg #[.int .i64 a0_0, .int .i64 a0_1, .bool a0_2, .slice A0_3 l0_3.length c0_3]] rfl (by (try simp only [List.map_toArray, List.map_cons, List.map_nil]); first | done | rfl | (simp only [List.length_drop, List.length_take]; rfl)) ?_; (with_reducible refine (assessorref51_Valid.calls k a0_0 a0_1 a0_2 _ _ l0_3 true _ ?side1 ?side2 A5.out).mono ?_); (case side1 => repeat (first | exact (Kd.C_below HR0_3.out HB.out) | (with_reducible refine Kd.C_alloc ?_ _) | (with_reducible refine Kd.C_drewN ?_ _) | (with_reducible refine Kd.C_drew ?_))); (case side2 => exact HC0_3.out); rintro e w9 ⟨rfl, hb⟩; refine ⟨_, rfl, ?_⟩; have n0_ := Aside0.mk (blk_below (g := gb353) (o := .cells #[.int .i64 a0_0, .int .i64 a0_1, .bool a0_2, .slice A0_3 l0_3.length c0_3] 24 (0, 0)) (by (with_reducible repeat (first | refine blk_drewN ?_ _ | refine blk_drew ?_ | refine blk_alloc ?_ _)); exact BK353.out) hb); have n1_ := Aside0.mk (below_step (by repeat (first | (with_reducible first | exact HB.out | apply below_alloc | apply pw_below_drewN | apply below_drew1 | refine below_set ?_ GE353.out) | exact HB.out)) hb); clear BK353; clear HB; have BK353 := n0_; have HB := n1_; clear n0_ n1_; (try clear hb); (try clear hb2); (try clear hk); (try clear hi)))
    go_meet
    case rel => exact ⟨_, (true), (by first | rfl | (simp; done) | (simp [*]; done)), H', ⟨by first | omega | exact Nat.le_refl _⟩, ⟨by (with_reducible repeat (first | refine blk_drewN ?_ _ | refine blk_drew ?_ | refine blk_alloc ?_ _)); exact BK353.out⟩, ⟨by repeat (first | (with_reducible first | exact HB.out | apply below_alloc | apply pw_below_drewN | apply below_drew1 | refine below_set ?_ GE353.out) | exact HB.out)⟩⟩
   ·rw [if_neg c7] at H
    have c7b0 : decide (a1 < 0) = false := decide_eq_false c7
    clear c7
    (first | rw [c7b0] | (simp only [i64_w, i32_w]; rw [c7b0]) | skip)
    by_cases c10 : a1 > 100
    ·rw [if_pos c10] at H
     have c10b0 : decide (100 < a1) = true := decide_eq_true c10
     clear c10
     have H' := Aside0.mk H
     clear H
     have hcz11_0 : w4.cell? ⟨gb353, 0, none⟩ = some (.int .i64 a0_0) := (blk_cell BK353.out 0).trans rfl
     have hcz11_1 : w4.cell? ⟨gb353, 1, none⟩ = some (.int .i64 a0_1) := (blk_cell BK353.out 1).trans rfl
     have hcz11_2 : w4.cell? ⟨gb353, 2, none⟩ = some (.bool a0_2) := (blk_cell BK353.out 2).trans rfl
     have hcz11_3 : w4.cell? ⟨gb353, 3, none⟩ = some (.slice A0_3 l0_3.length c0_3) := (blk_cell BK353.out 3).trans rfl
     have hfz11_0 := blk_frozen BK353.out 0
     have hfz11_1 := blk_frozen BK353.out 1
     have hfz11_2 := blk_frozen BK353.out 2
     have hfz11_3 := blk_frozen BK353.out 3
     go_wp2_with (first | ((with_reducible refine gate_callee (f := 16) rfl ?_); refine goesL_ (some 10) rfl rfl Try.func16 (by kernel_rfl) rfl #[.agg #[.int .i64 a0_0, .int .i64 a0_1, .bool a0_2, .slice A0_3 l0_3.length c0_3]] rfl (by (try simp only [List.map_toArray, List.map_cons, List.map_nil]); first | done | rfl | (simp only [List.length_drop, List.length_take]; rfl)) ?_; (with_reducible refine (assessorref51_Valid.calls k a0_0 a0_1 a0_2 _ _ l0_3 true _ ?side1 ?side2 A5.out).mono ?_); (case side1 => repeat (first | exact (Kd.C_below HR0_3.out HB.out) | (with_reducible refine Kd.C_alloc ?_ _) | (with_reducible refine Kd.C_drewN ?_ _) | (with_reducible refine Kd.C_drew ?_))); (case side2 => exact HC0_3.out); rintro e w12 ⟨rfl, hb⟩; refine ⟨_, rfl, ?_⟩; have n0_ := Aside0.mk (blk_below (g := gb353) (o := .cells #[.int .i64 a0_0, .int .i64 a0_1, .bool a0_2, .slice A0_3 l0_3.length c0_3] 24 (0, 0)) (by (with_reducible repeat (first | refine blk_drewN ?_ _ | refine blk_drew ?_ | refine blk_alloc ?_ _)); exact BK353.out) hb); have n1_ := Aside0.mk (below_step (by repeat (first | (with_reducible first | exact HB.out | apply below_alloc | apply pw_below_drewN | apply below_drew1 | refine below_set ?_ GE353.out) | exact HB.out)) hb); clear BK353; clear HB; have BK353 := n0_; have HB := n1_; clear n0_ n1_; (try clear hb); (try clear hb2); (try clear hk); (try clear hi)))
     go_meet
     case rel => exact ⟨_, (true), (by first | rfl | (simp; done) | (simp [*]; done)), H', ⟨by first | omega | exact Nat.le_refl _⟩, ⟨by (with_reducible repeat (first | refine blk_drewN ?_ _ | refine blk_drew ?_ | refine blk_alloc ?_ _)); exact BK353.out⟩, ⟨by repeat (first | (with_reducible first | exact HB.out | apply below_alloc | apply pw_below_drewN | apply below_drew1 | refine below_set ?_ GE353.out) | exact HB.out)⟩⟩
    ·rw [if_neg c10] at H
     have c10b0 : decide (100 < a1) = false := decide_eq_false c10
     clear c10
     replace H := Option.bind_eq_some_iff.mp H
     obtain ⟨t355, A130, H⟩ := H
     replace H : (assessorref51_Until.j0 k a1 (decide (t355 ≥ (wrap64 (100 * a1)))) a0_0 a0_1 a0_2 l0_3) = some (r1, r2) := H
     have A13 := Aside0.mk A130
     clear A130
     have H' := Aside0.mk H
     clear H
     have hcz14_0 : w4.cell? ⟨gb353, 0, none⟩ = some (.int .i64 a0_0) := (blk_cell BK353.out 0).trans rfl
     have hcz14_1 : w4.cell? ⟨gb353, 1, none⟩ = some (.int .i64 a0_1) := (blk_cell BK353.out 1).trans rfl
     have hcz14_2 : w4.cell? ⟨gb353, 2, none⟩ = some (.bool a0_2) := (blk_cell BK353.out 2).trans rfl
     have hcz14_3 : w4.cell? ⟨gb353, 3, none⟩ = some (.slice A0_3 l0_3.length c0_3) := (blk_cell BK353.out 3).trans rfl
     have hfz14_0 := blk_frozen BK353.out 0
     have hfz14_1 := blk_frozen BK353.out 1
     have hfz14_2 := blk_frozen BK353.out 2
     have hfz14_3 := blk_frozen BK353.out 3
     go_wp2_with (first | ((with_reducible refine gate_callee (f := 16) rfl ?_); refine goesL_ (some 10) rfl rfl Try.func16 (by kernel_rfl) rfl #[.agg #[.int .i64 a0_0, .int .i64 a0_1, .bool a0_2, .slice A0_3 l0_3.length c0_3]] rfl (by (try simp only [List.map_toArray, List.map_cons, List.map_nil]); first | done | rfl | (simp only [List.length_drop, List.length_take]; rfl)) ?_; (with_reducible refine (assessorref51_Valid.calls k a0_0 a0_1 a0_2 _ _ l0_3 true _ ?side1 ?side2 A5.out).mono ?_); (case side1 => repeat (first | exact (Kd.C_below HR0_3.out HB.out) | (with_reducible refine Kd.C_alloc ?_ _) | (with_reducible refine Kd.C_drewN ?_ _) | (with_reducible refine Kd.C_drew ?_))); (case side2 => exact HC0_3.out); rintro e w15 ⟨rfl, hb⟩; refine ⟨_, rfl, ?_⟩; have n0_ := Aside0.mk (blk_below (g := gb353) (o := .cells #[.int .i64 a0_0, .int .i64 a0_1, .bool a0_2, .slice A0_3 l0_3.length c0_3] 24 (0, 0)) (by (with_reducible repeat (first | refine blk_drewN ?_ _ | refine blk_drew ?_ | refine blk_alloc ?_ _)); exact BK353.out) hb); have n1_ := Aside0.mk (below_step (by repeat (first | (with_reducible first | exact HB.out | apply below_alloc | apply pw_below_drewN | apply below_drew1 | refine below_set ?_ GE353.out) | exact HB.out)) hb); clear BK353; clear HB; have BK353 := n0_; have HB := n1_; clear n0_ n1_; (try clear hb); (try clear hb2); (try clear hk); (try clear hi); have hcz16_0 : w15.cell? ⟨gb353, 0, none⟩ = some (.int .i64 a0_0) := (blk_cell BK353.out 0).trans rfl; have hcz16_1 : w15.cell? ⟨gb353, 1, none⟩ = some (.int .i64 a0_1) := (blk_cell BK353.out 1).trans rfl; have hcz16_2 : w15.cell? ⟨gb353, 2, none⟩ = some (.bool a0_2) := (blk_cell BK353.out 2).trans rfl; have hcz16_3 : w15.cell? ⟨gb353, 3, none⟩ = some (.slice A0_3 l0_3.length c0_3) := (blk_cell BK353.out 3).trans rfl; have hfz16_0 := blk_frozen BK353.out 0; have hfz16_1 := blk_frozen BK353.out 1; have hfz16_2 := blk_frozen BK353.out 2; have hfz16_3 := blk_frozen BK353.out 3) | (go_at_call 38; (with_reducible refine (assessorref51_parts.calls k a0_0 a0_1 a0_2 _ _ l0_3 1099511627776 t355 _ ?side1 ?side2 A13.out).mono ?_); (case side1 => repeat (first | exact (Kd.C_below HR0_3.out HB.out) | (with_reducible refine Kd.C_alloc ?_ _) | (with_reducible refine Kd.C_drewN ?_ _) | (with_reducible refine Kd.C_drew ?_))); (case side2 => exact HC0_3.out); rintro e w17 ⟨rfl, hb⟩; have n0_ := Aside0.mk (blk_below (g := gb353) (o := .cells #[.int .i64 a0_0, .int .i64 a0_1, .bool a0_2, .slice A0_3 l0_3.length c0_3] 24 (0, 0)) (by (with_reducible repeat (first | refine blk_drewN ?_ _ | refine blk_drew ?_ | refine blk_alloc ?_ _)); exact BK353.out) hb); have n1_ := Aside0.mk (below_step (by repeat (first | (with_reducible first | exact HB.out | apply below_alloc | apply pw_below_drewN | apply below_drew1 | refine below_set ?_ GE353.out) | exact HB.out)) hb); clear BK353; clear HB; have BK353 := n0_; have HB := n1_; clear n0_ n1_; (try clear hb); (try clear hb2); (try clear hk); (try clear hi)))
     go_meet
     case rel => exact ⟨_, (decide (t355 ≥ (wrap64 (100 * a1)))), (by first | rfl | (simp; done) | (simp [*]; done)), H', ⟨by first | omega | exact Nat.le_refl _⟩, ⟨by (with_reducible repeat (first | refine blk_drewN ?_ _ | refine blk_drew ?_ | refine blk_alloc ?_ _)); exact BK353.out⟩, ⟨by repeat (first | (with_reducible first | exact HB.out | apply below_alloc | apply pw_below_drewN | apply below_drew1 | refine below_set ?_ GE353.out) | exact HB.out)⟩⟩
  ·replace c6 := Bool.eq_false_iff.mpr c6
   subst c6
   have H1 : (assessorref51_Until.j0 k a1 true a0_0 a0_1 a0_2 l0_3) = some (r1, r2) := by rw [if_neg (show ¬ (false = true) by decide)] at H; exact H
   clear H
   have H := H1
   clear H1
   have H' := Aside0.mk H
   clear H
   have hcz18_0 : w4.cell? ⟨gb353, 0, none⟩ = some (.int .i64 a0_0) := (blk_cell BK353.out 0).trans rfl
   have hcz18_1 : w4.cell? ⟨gb353, 1, none⟩ = some (.int .i64 a0_1) := (blk_cell BK353.out 1).trans rfl
   have hcz18_2 : w4.cell? ⟨gb353, 2, none⟩ = some (.bool a0_2) := (blk_cell BK353.out 2).trans rfl
   have hcz18_3 : w4.cell? ⟨gb353, 3, none⟩ = some (.slice A0_3 l0_3.length c0_3) := (blk_cell BK353.out 3).trans rfl
   have hfz18_0 := blk_frozen BK353.out 0
   have hfz18_1 := blk_frozen BK353.out 1
   have hfz18_2 := blk_frozen BK353.out 2
   have hfz18_3 := blk_frozen BK353.out 3
   go_wp2_with (first | ((with_reducible refine gate_callee (f := 16) rfl ?_); refine goesL_ (some 10) rfl rfl Try.func16 (by kernel_rfl) rfl #[.agg #[.int .i64 a0_0, .int .i64 a0_1, .bool a0_2, .slice A0_3 l0_3.length c0_3]] rfl (by (try simp only [List.map_toArray, List.map_cons, List.map_nil]); first | done | rfl | (simp only [List.length_drop, List.length_take]; rfl)) ?_; (with_reducible refine (assessorref51_Valid.calls k a0_0 a0_1 a0_2 _ _ l0_3 false _ ?side1 ?side2 A5.out).mono ?_); (case side1 => repeat (first | exact (Kd.C_below HR0_3.out HB.out) | (with_reducible refine Kd.C_alloc ?_ _) | (with_reducible refine Kd.C_drewN ?_ _) | (with_reducible refine Kd.C_drew ?_))); (case side2 => exact HC0_3.out); rintro e w19 ⟨rfl, hb⟩; refine ⟨_, rfl, ?_⟩; have n0_ := Aside0.mk (blk_below (g := gb353) (o := .cells #[.int .i64 a0_0, .int .i64 a0_1, .bool a0_2, .slice A0_3 l0_3.length c0_3] 24 (0, 0)) (by (with_reducible repeat (first | refine blk_drewN ?_ _ | refine blk_drew ?_ | refine blk_alloc ?_ _)); exact BK353.out) hb); have n1_ := Aside0.mk (below_step (by repeat (first | (with_reducible first | exact HB.out | apply below_alloc | apply pw_below_drewN | apply below_drew1 | refine below_set ?_ GE353.out) | exact HB.out)) hb); clear BK353; clear HB; have BK353 := n0_; have HB := n1_; clear n0_ n1_; (try clear hb); (try clear hb2); (try clear hk); (try clear hi)))
   go_meet
   case rel => exact ⟨_, (true), (by first | rfl | (simp; done) | (simp [*]; done)), H', ⟨by first | omega | exact Nat.le_refl _⟩, ⟨by (with_reducible repeat (first | refine blk_drewN ?_ _ | refine blk_drew ?_ | refine blk_alloc ?_ _)); exact BK353.out⟩, ⟨by repeat (first | (with_reducible first | exact HB.out | apply below_alloc | apply pw_below_drewN | apply below_drew1 | refine below_set ?_ GE353.out) | exact HB.out)⟩⟩
 case rest =>
  clear HC3
  try clear c1
  try clear c2
  try clear p2
  try clear c6
  try clear p6
  try clear c7
  try clear c7b0
  try clear c10
  try clear c10b0
  try clear c16
  try clear hcz11_0
  try clear hcz11_1
  try clear hcz11_2
  try clear hcz11_3
  try clear hcz14_0
  try clear hcz14_1
  try clear hcz14_2
  try clear hcz14_3
  try clear hcz16_0
  try clear hcz16_1
  try clear hcz16_2
  try clear hcz16_3
  try clear hcz18_0
  try clear hcz18_1
  try clear hcz18_2
  try clear hcz18_3
  try clear hcz8_0
  try clear hcz8_1
  try clear hcz8_2
  try clear hcz8_3
  try clear hfz11_0
  try clear hfz11_1
  try clear hfz11_2
  try clear hfz11_3
  try clear hfz14_0
  try clear hfz14_1
  try clear hfz14_2
  try clear hfz14_3
  try clear hfz16_0
  try clear hfz16_1
  try clear hfz16_2
  try clear hfz16_3
  try clear hfz18_0
  try clear hfz18_1
  try clear hfz18_2
  try clear hfz18_3
  try clear hfz8_0
  try clear hfz8_1
  try clear hfz8_2
  try clear hfz8_3
  obtain ⟨kq, x26_2, rfl, HA, HJ2, BK353, HB⟩ := hcut
  cases kq with
  | zero => exact absurd HA.out (by simp [assessorref51_Until.j0])
  | succ kj2 =>
   have H := HA.out
   clear HA
   simp only [assessorref51_Until.j0] at H
   by_cases c20 : x26_2 = true
   ·subst c20
    have H1 : (some (0, false)) = some (r1, r2) := by rw [if_pos rfl] at H; exact H
    clear H
    have H := H1
    clear H1
    simp only [Option.some.injEq, Prod.mk.injEq] at H
    obtain ⟨rfl, rfl⟩ := H
    go_wp2
    go_ret2
    exact ⟨by first | rfl | (simp [errW_none, errW_some] <;> rfl) | (simp [*, errW_none, errW_some] <;> rfl), by repeat (first | (with_reducible first | exact HB.out | apply below_alloc | apply pw_below_drewN | apply below_drew1 | refine below_set ?_ GE353.out) | exact HB.out)⟩
   ·replace c20 := Bool.eq_false_iff.mpr c20
    subst c20
    have H1 : (assessorref51_Until.l0 kj2 a1 0 1099511627776 a0_0 a0_1 a0_2 l0_3) = some (r1, r2) := by rw [if_neg (show ¬ (false = true) by decide)] at H; exact H
    clear H
    have H := H1
    clear H1
    have H' := Aside0.mk H
    clear H
    go_wp2
    go_loopg [6, 7] kj2 (fun kq v6 v7 w' => ∃ (x6_2 : Int) (x7_2 : Int), v6 = .int .i64 x6_2 ∧ v7 = .int .i64 x7_2 ∧ Aside0 (assessorref51_Until.l0 kq a1 x6_2 x7_2 a0_0 a0_1 a0_2 l0_3 = some (r1, r2)) ∧ Aside0 (kq ≤ kj2) ∧ Aside0 (w'.heap[gb353]? = some (.cells #[.int .i64 a0_0, .int .i64 a0_1, .bool a0_2, (.slice A0_3 l0_3.length c0_3)] 24 (0, 0))) ∧ Aside0 (Below w.heap.size w w'))
    case atStart => exact ⟨(0), (1099511627776), (by first | rfl | (simp; done) | (simp [*]; done)), (by first | rfl | (simp; done) | (simp [*]; done)), H', ⟨Nat.le_refl _⟩, ⟨by (with_reducible repeat (first | refine blk_drewN ?_ _ | refine blk_drew ?_ | refine blk_alloc ?_ _)); exact BK353.out⟩, ⟨by repeat (first | (with_reducible first | exact HB.out | apply below_alloc | apply pw_below_drewN | apply below_drew1 | refine below_set ?_ GE353.out) | exact HB.out)⟩⟩
    case round =>
     clear H'
     try clear c1
     try clear c2
     try clear p2
     try clear c6
     try clear p6
     try clear c7
     try clear c7b0
     try clear c10
     try clear c10b0
     try clear c16
     try clear c20
     try clear hcz11_0
     try clear hcz11_1
     try clear hcz11_2
     try clear hcz11_3
     try clear hcz14_0
     try clear hcz14_1
     try clear hcz14_2
     try clear hcz14_3
     try clear hcz16_0
     try clear hcz16_1
     try clear hcz16_2
     try clear hcz16_3
     try clear hcz18_0
     try clear hcz18_1
     try clear hcz18_2
     try clear hcz18_3
     try clear hcz8_0
     try clear hcz8_1
     try clear hcz8_2
     try clear hcz8_3
     try clear hfz11_0
     try clear hfz11_1
     try clear hfz11_2
     try clear hfz11_3
     try clear hfz14_0
     try clear hfz14_1
     try clear hfz14_2
     try clear hfz14_3
     try clear hfz16_0
     try clear hfz16_1
     try clear hfz16_2
     try clear hfz16_3
     try clear hfz18_0
     try clear hfz18_1
     try clear hfz18_2
     try clear hfz18_3
     try clear hfz8_0
     try clear hfz8_1
     try clear hfz8_2
     try clear hfz8_3
     try clear p2
     try clear p6
     obtain ⟨x6_2, x7_2, rfl, rfl, HA, HK2, BK353, HB⟩ := hrel
     cases gk with
     | zero => exact absurd HA.out (by simp [assessorref51_Until.l0])
     | succ k2 =>
      have H := HA.out
      clear HA
      simp only [assessorref51_Until.l0] at H
      by_cases c21 : (wrap64 (x7_2 - x6_2)) > 1
      ·rw [if_pos c21] at H
       have c21b0 : decide (1 < (wrap64 (x7_2 - x6_2))) = true := decide_eq_true c21
       clear c21
       replace H := Option.bind_eq_some_iff.mp H
       obtain ⟨t356, A220, H⟩ := H
       replace H : (if t356 ≥ (wrap64 (100 * a1)) then (assessorref51_Until.l0 k2 a1 (wrap64 (Int.tdiv (wrap64 (x6_2 + x7_2)) 2)) x7_2 a0_0 a0_1 a0_2 l0_3) else (assessorref51_Until.l0 k2 a1 x6_2 (wrap64 (Int.tdiv (wrap64 (x6_2 + x7_2)) 2)) a0_0 a0_1 a0_2 l0_3)) = some (r1, r2) := H
       have A22 := Aside0.mk A220
       clear A220
       by_cases c23 : t356 ≥ (wrap64 (100 * a1))
       ·rw [if_pos c23] at H
        have c23b0 : decide ((wrap64 (100 * a1)) ≤ t356) = true := decide_eq_true c23
        clear c23
        have H' := Aside0.mk H
        clear H
        have hcz24_0 : wr.cell? ⟨gb353, 0, none⟩ = some (.int .i64 a0_0) := (blk_cell BK353.out 0).trans rfl
        have hcz24_1 : wr.cell? ⟨gb353, 1, none⟩ = some (.int .i64 a0_1) := (blk_cell BK353.out 1).trans rfl
        have hcz24_2 : wr.cell? ⟨gb353, 2, none⟩ = some (.bool a0_2) := (blk_cell BK353.out 2).trans rfl
        have hcz24_3 : wr.cell? ⟨gb353, 3, none⟩ = some (.slice A0_3 l0_3.length c0_3) := (blk_cell BK353.out 3).trans rfl
        have hfz24_0 := blk_frozen BK353.out 0
        have hfz24_1 := blk_frozen BK353.out 1
        have hfz24_2 := blk_frozen BK353.out 2
        have hfz24_3 := blk_frozen BK353.out 3
        go_wp2_with (first | ((with_reducible refine gate_callee (f := 38) rfl ?_); refine goesL_ (some 37) rfl rfl Try.func38 (by kernel_rfl) rfl #[.agg #[.int .i64 a0_0, .int .i64 a0_1, .bool a0_2, .slice A0_3 l0_3.length c0_3], .int .i64 (wrap64 (Int.tdiv (wrap64 (x6_2 + x7_2)) 2))] rfl (by (try simp only [List.map_toArray, List.map_cons, List.map_nil]); first | done | rfl | (simp only [List.length_drop, List.length_take]; rfl)) ?_; (with_reducible refine (assessorref51_parts.calls k2 a0_0 a0_1 a0_2 _ _ l0_3 (wrap64 (Int.tdiv (wrap64 (x6_2 + x7_2)) 2)) t356 _ ?side1 ?side2 A22.out).mono ?_); (case side1 => repeat (first | exact (Kd.C_below HR0_3.out HB.out) | (with_reducible refine Kd.C_alloc ?_ _) | (with_reducible refine Kd.C_drewN ?_ _) | (with_reducible refine Kd.C_drew ?_))); (case side2 => exact HC0_3.out); rintro e w25 ⟨rfl, hb⟩; refine ⟨_, rfl, ?_⟩; have n0_ := Aside0.mk (blk_below (g := gb353) (o := .cells #[.int .i64 a0_0, .int .i64 a0_1, .bool a0_2, .slice A0_3 l0_3.length c0_3] 24 (0, 0)) (by (with_reducible repeat (first | refine blk_drewN ?_ _ | refine blk_drew ?_ | refine blk_alloc ?_ _)); exact BK353.out) hb); have n1_ := Aside0.mk (below_step (by repeat (first | (with_reducible first | exact HB.out | apply below_alloc | apply pw_below_drewN | apply below_drew1 | refine below_set ?_ GE353.out) | exact HB.out)) hb); clear BK353; clear HB; have BK353 := n0_; have HB := n1_; clear n0_ n1_; (try clear hb); (try clear hb2); (try clear hk); (try clear hi)))
        go_roundg k2
        case measure => have := HJ2.out; have := HK2.out; omega
        case rel => exact ⟨(wrap64 (Int.tdiv (wrap64 (x6_2 + x7_2)) 2)), (x7_2), (by first | rfl | (simp; done) | (simp [*]; done)), (by first | rfl | (simp; done) | (simp [*]; done)), H', ⟨by have := HJ2.out; have := HK2.out; omega⟩, ⟨by (with_reducible repeat (first | refine blk_drewN ?_ _ | refine blk_drew ?_ | refine blk_alloc ?_ _)); exact BK353.out⟩, ⟨by repeat (first | (with_reducible first | exact HB.out | apply below_alloc | apply pw_below_drewN | apply below_drew1 | refine below_set ?_ GE353.out) | exact HB.out)⟩⟩
       ·rw [if_neg c23] at H
        have c23b0 : decide ((wrap64 (100 * a1)) ≤ t356) = false := decide_eq_false c23
        clear c23
        have H' := Aside0.mk H
        clear H
        have hcz26_0 : wr.cell? ⟨gb353, 0, none⟩ = some (.int .i64 a0_0) := (blk_cell BK353.out 0).trans rfl
        have hcz26_1 : wr.cell? ⟨gb353, 1, none⟩ = some (.int .i64 a0_1) := (blk_cell BK353.out 1).trans rfl
        have hcz26_2 : wr.cell? ⟨gb353, 2, none⟩ = some (.bool a0_2) := (blk_cell BK353.out 2).trans rfl
        have hcz26_3 : wr.cell? ⟨gb353, 3, none⟩ = some (.slice A0_3 l0_3.length c0_3) := (blk_cell BK353.out 3).trans rfl
        have hfz26_0 := blk_frozen BK353.out 0
        have hfz26_1 := blk_frozen BK353.out 1
        have hfz26_2 := blk_frozen BK353.out 2
        have hfz26_3 := blk_frozen BK353.out 3
        go_wp2_with (first | ((with_reducible refine gate_callee (f := 38) rfl ?_); refine goesL_ (some 37) rfl rfl Try.func38 (by kernel_rfl) rfl #[.agg #[.int .i64 a0_0, .int .i64 a0_1, .bool a0_2, .slice A0_3 l0_3.length c0_3], .int .i64 (wrap64 (Int.tdiv (wrap64 (x6_2 + x7_2)) 2))] rfl (by (try simp only [List.map_toArray, List.map_cons, List.map_nil]); first | done | rfl | (simp only [List.length_drop, List.length_take]; rfl)) ?_; (with_reducible refine (assessorref51_parts.calls k2 a0_0 a0_1 a0_2 _ _ l0_3 (wrap64 (Int.tdiv (wrap64 (x6_2 + x7_2)) 2)) t356 _ ?side1 ?side2 A22.out).mono ?_); (case side1 => repeat (first | exact (Kd.C_below HR0_3.out HB.out) | (with_reducible refine Kd.C_alloc ?_ _) | (with_reducible refine Kd.C_drewN ?_ _) | (with_reducible refine Kd.C_drew ?_))); (case side2 => exact HC0_3.out); rintro e w27 ⟨rfl, hb⟩; refine ⟨_, rfl, ?_⟩; have n0_ := Aside0.mk (blk_below (g := gb353) (o := .cells #[.int .i64 a0_0, .int .i64 a0_1, .bool a0_2, .slice A0_3 l0_3.length c0_3] 24 (0, 0)) (by (with_reducible repeat (first | refine blk_drewN ?_ _ | refine blk_drew ?_ | refine blk_alloc ?_ _)); exact BK353.out) hb); have n1_ := Aside0.mk (below_step (by repeat (first | (with_reducible first | exact HB.out | apply below_alloc | apply pw_below_drewN | apply below_drew1 | refine below_set ?_ GE353.out) | exact HB.out)) hb); clear BK353; clear HB; have BK353 := n0_; have HB := n1_; clear n0_ n1_; (try clear hb); (try clear hb2); (try clear hk); (try clear hi)))
        go_roundg k2
        case measure => have := HJ2.out; have := HK2.out; omega
        case rel => exact ⟨(x6_2), (wrap64 (Int.tdiv (wrap64 (x6_2 + x7_2)) 2)), (by first | rfl | (simp; done) | (simp [*]; done)), (by first | rfl | (simp; done) | (simp [*]; done)), H', ⟨by have := HJ2.out; have := HK2.out; omega⟩, ⟨by (with_reducible repeat (first | refine blk_drewN ?_ _ | refine blk_drew ?_ | refine blk_alloc ?_ _)); exact BK353.out⟩, ⟨by repeat (first | (with_reducible first | exact HB.out | apply below_alloc | apply pw_below_drewN | apply below_drew1 | refine below_set ?_ GE353.out) | exact HB.out)⟩⟩
      ·rw [if_neg c21] at H
       have c21b0 : decide (1 < (wrap64 (x7_2 - x6_2))) = false := decide_eq_false c21
       clear c21
       simp only [Option.some.injEq, Prod.mk.injEq] at H
       obtain ⟨rfl, rfl⟩ := H
       go_wp2
       go_ret2
       exact ⟨by first | rfl | (simp [errW_none, errW_some] <;> rfl) | (simp [*, errW_none, errW_some] <;> rfl), by repeat (first | (with_reducible first | exact HB.out | apply below_alloc | apply pw_below_drewN | apply below_drew1 | refine below_set ?_ GE353.out) | exact HB.out)⟩

/-! ### assessorref51_Factor: function 25 -/
def assessorref51_Factor.j0 : Nat → Int → Bool → Int → Int → Bool → List (S34) → Option (Int × Int)
 | 0, _, _, _, _, _, _ => none
 | k + 1, x1, x14, x358000, x358001, x358002, x358003 => if x14 = true then (some (0, 0)) else ((assessorref51_parts.f k x358000 x358001 x358002 x358003 x1).bind fun t361 => ((assessorref46_Make.f k t361 10000).bind fun bt362 => (some (bt362.1, bt362.2.1))))
def assessorref51_Factor.f (k : Nat) (a0_0 : Int) (a0_1 : Int) (a0_2 : Bool) (l0_3 : List (S34)) (a1 : Int) : Option (Int × Int) := (assessorref51_Valid.f k a0_0 a0_1 a0_2 l0_3).bind fun t359 => (if t359 = true then ((assessorref51_time.f a1).bind fun t360 => (assessorref51_Factor.j0 k a1 (!t360) a0_0 a0_1 a0_2 l0_3)) else (assessorref51_Factor.j0 k a1 true a0_0 a0_1 a0_2 l0_3))
theorem assessorref51_Factor.mono_l : ∀ k, (∀ y0 y1 y2 y3 y4 y5, LeO (assessorref51_Factor.j0 k y0 y1 y2 y3 y4 y5) (assessorref51_Factor.j0 (k + 1) y0 y1 y2 y3 y4 y5))
 | 0 => fun _ _ _ _ _ _ r h => by simp [assessorref51_Factor.j0] at h
 | k + 1 => by
  have ih0 := assessorref51_Factor.mono_l k
  ·intro y0 y1 y2 y3 y4 y5
   unfold assessorref51_Factor.j0
   repeat' first
   | (with_reducible exact ih0 _ _ _ _ _ _)
   | (with_reducible exact assessorref46_Make.mono _ _ _)
   | (with_reducible exact assessorref51_Valid.mono _ _ _ _ _)
   | (with_reducible exact assessorref51_parts.mono _ _ _ _ _ _)
   | (with_reducible exact LeO.refl _)
   | (with_reducible exact LeO.none _)
   | (with_reducible refine LeO.ite ?_ ?_)
   | (with_reducible refine LeO.bind ?_ (fun _ => ?_))
   | exact ih0 _ _ _ _ _ _
   | exact assessorref46_Make.mono _ _ _
   | exact assessorref51_Valid.mono _ _ _ _ _
   | exact assessorref51_parts.mono _ _ _ _ _ _
   | exact LeO.none _
   | refine LeO.ite ?_ ?_
   | refine LeO.bind ?_ (fun _ => ?_)
theorem assessorref51_Factor.mono : ∀ a0 a1 a2 a3 a4 k, LeO (assessorref51_Factor.f k a0 a1 a2 a3 a4) (assessorref51_Factor.f (k + 1) a0 a1 a2 a3 a4) := by
 intro a0 a1 a2 a3 a4 k
 have ih0 := assessorref51_Factor.mono_l k
 unfold assessorref51_Factor.f
 repeat' first
   | (with_reducible exact ih0 _ _ _ _ _ _)
   | (with_reducible exact assessorref46_Make.mono _ _ _)
   | (with_reducible exact assessorref51_Valid.mono _ _ _ _ _)
   | (with_reducible exact assessorref51_parts.mono _ _ _ _ _ _)
   | (with_reducible exact LeO.refl _)
   | (with_reducible exact LeO.none _)
   | (with_reducible refine LeO.ite ?_ ?_)
   | (with_reducible refine LeO.bind ?_ (fun _ => ?_))
   | exact ih0 _ _ _ _ _ _
   | exact assessorref46_Make.mono _ _ _
   | exact assessorref51_Valid.mono _ _ _ _ _
   | exact assessorref51_parts.mono _ _ _ _ _ _
   | exact LeO.none _
   | refine LeO.ite ?_ ?_
   | refine LeO.bind ?_ (fun _ => ?_)
set_option maxHeartbeats 8000000 in
set_option maxRecDepth 100000 in
theorem assessorref51_Factor.calls (k : Nat) (a0_0 : Int) (a0_1 : Int) (a0_2 : Bool) (A0_3 : Option Addr) (c0_3 : Nat) (l0_3 : List (S34)) (a1 : Int) (r1 : Int) (r2 : Int) (w : World) (hr0_3 : Kd.C k34 w A0_3 l0_3.length l0_3) (hc0_3 : l0_3.length ≤ c0_3) (h : assessorref51_Factor.f k a0_0 a0_1 a0_2 l0_3 a1 = some (r1, r2)) :
  Calls Try.prog 25 #[.agg #[.int .i64 a0_0, .int .i64 a0_1, .bool a0_2, .slice A0_3 l0_3.length c0_3], .int .i64 a1] w fun e w' => e = .returned (.agg #[.int .i64 r1, .int .i64 r2]) ∧ Below w.heap.size w w' := by
 have hu24 := Try.underlying24
 have hu27 := Try.underlying27
 have HR0_3 := Aside0.mk hr0_3
 have HC0_3 := Aside0.mk hc0_3
 clear hr0_3 hc0_3
 have HB := Aside0.mk (Below.refl w.heap.size w)
 have H : ((assessorref51_Valid.f k a0_0 a0_1 a0_2 l0_3).bind fun t359 => (if t359 = true then ((assessorref51_time.f a1).bind fun t360 => (assessorref51_Factor.j0 k a1 (!t360) a0_0 a0_1 a0_2 l0_3)) else (assessorref51_Factor.j0 k a1 true a0_0 a0_1 a0_2 l0_3))) = some (r1, r2) := h
 clear h
 have HC3 := Aside0.mk H
 clear H
 go_enter Try.func25, Try.ntmps25
 go_upto_region 1 with (first | ((with_reducible refine gate_dst (N := 2) rfl ?_); refine box_event ?hg (N := 2) ?hd (cs := #[.int .i64 a0_0, .int .i64 a0_1, .bool a0_2, .slice A0_3 l0_3.length c0_3]) (t := 24) ?hr ?_; (case hd => rfl); (case hg => rfl); (case hr => first | (go_simp; done) | (go_simp; rfl)); intro gb357 hg w4 hbox hb; have n0_ := Aside0.mk (below_step (by repeat (first | (with_reducible first | exact HB.out | apply below_alloc | apply pw_below_drewN | apply below_drew1) | exact HB.out)) hb); have n1_ := Aside0.mk (hbox); have n2_ := Aside0.mk ((by rw [hg]; exact (below_size (by repeat (first | (with_reducible first | exact HB.out | apply below_alloc | apply pw_below_drewN | apply below_drew1) | exact HB.out))) : w.heap.size ≤ gb357)); have n3_ := Aside0.mk ((by rw [hg]; exact (below_size (by repeat (first | (with_reducible first | exact HB.out | apply below_alloc | apply pw_below_drewN | apply below_drew1) | exact HB.out))) : w.heap.size ≤ gb357)); clear HB; have HB := n0_; have BK357 := n1_; have GW357 := n2_; have GE357 := n3_; clear n0_ n1_ n2_ n3_; clear hb hbox hg) | ((with_reducible refine gate_dst (N := 4) rfl ?_); refine box_event ?hg (N := 4) ?hd (cs := #[.int .i64 0, .int .i64 0]) (t := 27) ?hr ?_; (case hd => rfl); (case hg => rfl); (case hr => first | (go_simp; done) | (go_simp; rfl)); intro gb358 hg w5 hbox hb; have n0_ := Aside0.mk (blk_below (g := gb357) (o := .cells #[.int .i64 a0_0, .int .i64 a0_1, .bool a0_2, .slice A0_3 l0_3.length c0_3] 24 (0, 0)) (by (with_reducible repeat (first | refine blk_drewN ?_ _ | refine blk_drew ?_ | refine blk_alloc ?_ _)); exact BK357.out) hb); have n1_ := Aside0.mk (below_step (by repeat (first | (with_reducible first | exact HB.out | apply below_alloc | apply pw_below_drewN | apply below_drew1 | refine below_set ?_ GE357.out) | exact HB.out)) hb); have n2_ := Aside0.mk (hbox); have n3_ := Aside0.mk ((by rw [hg]; exact (below_size (by repeat (first | (with_reducible first | exact HB.out | apply below_alloc | apply pw_below_drewN | apply below_drew1 | refine below_set ?_ GE357.out) | exact HB.out))) : w.heap.size ≤ gb358)); have n4_ := Aside0.mk ((by rw [hg]; exact (below_size (by repeat (first | (with_reducible first | exact HB.out | apply below_alloc | apply pw_below_drewN | apply below_drew1 | refine below_set ?_ GE357.out) | exact HB.out))) : w.heap.size ≤ gb358)); have n5_ := Aside0.mk ((by rw [hg]; exact Nat.ne_of_lt (blk_lt (g := gb357) (o := .cells #[.int .i64 a0_0, .int .i64 a0_1, .bool a0_2, .slice A0_3 l0_3.length c0_3] 24 (0, 0)) (by (with_reducible repeat (first | refine blk_drewN ?_ _ | refine blk_drew ?_ | refine blk_alloc ?_ _)); exact BK357.out)) : gb357 ≠ gb358)); have n6_ := Aside0.mk ((by rw [hg]; exact Nat.ne_of_gt (blk_lt (g := gb357) (o := .cells #[.int .i64 a0_0, .int .i64 a0_1, .bool a0_2, .slice A0_3 l0_3.length c0_3] 24 (0, 0)) (by (with_reducible repeat (first | refine blk_drewN ?_ _ | refine blk_drew ?_ | refine blk_alloc ?_ _)); exact BK357.out)) : gb358 ≠ gb357)); clear BK357; clear HB; have BK357 := n0_; have HB := n1_; have BK358 := n2_; have GW358 := n3_; have GE358 := n4_; have NB357_358 := n5_; have NB358_357 := n6_; clear n0_ n1_ n2_ n3_ n4_ n5_ n6_; clear hb hbox hg))
 (try simp only [Act.put, List.setIfInBounds_toArray, List.set_cons_zero, List.set_cons_succ])
 go_cut [14] (fun v14 wc => ∃ (kq : Nat) (x14_2 : Bool), v14 = .bool x14_2 ∧ Aside0 (assessorref51_Factor.j0 kq a1 x14_2 a0_0 a0_1 a0_2 l0_3 = some (r1, r2)) ∧ Aside0 (kq ≤ k) ∧ Aside0 (wc.heap[gb357]? = some (.cells #[.int .i64 a0_0, .int .i64 a0_1, .bool a0_2, (.slice A0_3 l0_3.length c0_3)] 24 (0, 0))) ∧ Aside0 (wc.heap[gb358]? = some (.cells #[.int .i64 0, .int .i64 0] 27 (0, 0))) ∧ Aside0 (Below w.heap.size w wc))
 case first =>
  have H := HC3.out
  clear HC3
  replace H := Option.bind_eq_some_iff.mp H
  obtain ⟨t359, A60, H⟩ := H
  replace H : (if t359 = true then ((assessorref51_time.f a1).bind fun t360 => (assessorref51_Factor.j0 k a1 (!t360) a0_0 a0_1 a0_2 l0_3)) else (assessorref51_Factor.j0 k a1 true a0_0 a0_1 a0_2 l0_3)) = some (r1, r2) := H
  have A6 := Aside0.mk A60
  clear A60
  by_cases c7 : t359 = true
  ·subst c7
   have H1 : ((assessorref51_time.f a1).bind fun t360 => (assessorref51_Factor.j0 k a1 (!t360) a0_0 a0_1 a0_2 l0_3)) = some (r1, r2) := by rw [if_pos rfl] at H; exact H
   clear H
   have H := H1
   clear H1
   replace H := Option.bind_eq_some_iff.mp H
   obtain ⟨t360, A80, H⟩ := H
   replace H : (assessorref51_Factor.j0 k a1 (!t360) a0_0 a0_1 a0_2 l0_3) = some (r1, r2) := H
   have A8 := Aside0.mk A80
   clear A80
   have H' := Aside0.mk H
   clear H
   have hnb9 := NB357_358.out
   have hnc9 := NB358_357.out
   have hcz10_0 : w5.cell? ⟨gb357, 0, none⟩ = some (.int .i64 a0_0) := (blk_cell BK357.out 0).trans rfl
   have hcz10_1 : w5.cell? ⟨gb357, 1, none⟩ = some (.int .i64 a0_1) := (blk_cell BK357.out 1).trans rfl
   have hcz10_2 : w5.cell? ⟨gb357, 2, none⟩ = some (.bool a0_2) := (blk_cell BK357.out 2).trans rfl
   have hcz10_3 : w5.cell? ⟨gb357, 3, none⟩ = some (.slice A0_3 l0_3.length c0_3) := (blk_cell BK357.out 3).trans rfl
   have hfz10_0 := blk_frozen BK357.out 0
   have hfz10_1 := blk_frozen BK357.out 1
   have hfz10_2 := blk_frozen BK357.out 2
   have hfz10_3 := blk_frozen BK357.out 3
   go_wp2_with (first | ((with_reducible refine gate_callee (f := 16) rfl ?_); refine goesL_ (some 8) rfl rfl Try.func16 (by kernel_rfl) rfl #[.agg #[.int .i64 a0_0, .int .i64 a0_1, .bool a0_2, .slice A0_3 l0_3.length c0_3]] rfl (by (try simp only [List.map_toArray, List.map_cons, List.map_nil]); first | done | rfl | (simp only [List.length_drop, List.length_take]; rfl)) ?_; (with_reducible refine (assessorref51_Valid.calls k a0_0 a0_1 a0_2 _ _ l0_3 true _ ?side1 ?side2 A6.out).mono ?_); (case side1 => repeat (first | exact (Kd.C_below HR0_3.out HB.out) | (with_reducible refine Kd.C_alloc ?_ _) | (with_reducible refine Kd.C_drewN ?_ _) | (with_reducible refine Kd.C_drew ?_))); (case side2 => exact HC0_3.out); rintro e w11 ⟨rfl, hb⟩; refine ⟨_, rfl, ?_⟩; have n0_ := Aside0.mk (blk_below (g := gb357) (o := .cells #[.int .i64 a0_0, .int .i64 a0_1, .bool a0_2, .slice A0_3 l0_3.length c0_3] 24 (0, 0)) (by (with_reducible repeat (first | refine blk_drewN ?_ _ | refine blk_drew ?_ | refine blk_alloc ?_ _)); exact BK357.out) hb); have n1_ := Aside0.mk (blk_below (g := gb358) (o := .cells #[.int .i64 0, .int .i64 0] 27 (0, 0)) (by (with_reducible repeat (first | refine blk_drewN ?_ _ | refine blk_drew ?_ | refine blk_alloc ?_ _)); exact BK358.out) hb); have n2_ := Aside0.mk (below_step (by repeat (first | (with_reducible first | exact HB.out | apply below_alloc | apply pw_below_drewN | apply below_drew1 | refine below_set ?_ GE357.out | refine below_set ?_ GE358.out) | exact HB.out)) hb); clear BK357; clear BK358; clear HB; have BK357 := n0_; have BK358 := n1_; have HB := n2_; clear n0_ n1_ n2_; (try clear hb); (try clear hb2); (try clear hk); (try clear hi)) | (go_at_call 35; (with_reducible refine (assessorref51_time.calls a1 t360 _ A8.out).mono ?_); rintro e w' ⟨rfl, ⟨nd, rfl⟩⟩))
   go_meet
   case rel => exact ⟨_, (!t360), (by first | rfl | (simp; done) | (simp [*]; done)), H', ⟨by first | omega | exact Nat.le_refl _⟩, ⟨by (with_reducible repeat (first | refine blk_drewN ?_ _ | refine blk_drew ?_ | refine blk_alloc ?_ _)); exact BK357.out⟩, ⟨by (with_reducible repeat (first | refine blk_drewN ?_ _ | refine blk_drew ?_ | refine blk_alloc ?_ _)); exact BK358.out⟩, ⟨by repeat (first | (with_reducible first | exact HB.out | apply below_alloc | apply pw_below_drewN | apply below_drew1 | refine below_set ?_ GE357.out | refine below_set ?_ GE358.out) | exact HB.out)⟩⟩
  ·replace c7 := Bool.eq_false_iff.mpr c7
   subst c7
   have H1 : (assessorref51_Factor.j0 k a1 true a0_0 a0_1 a0_2 l0_3) = some (r1, r2) := by rw [if_neg (show ¬ (false = true) by decide)] at H; exact H
   clear H
   have H := H1
   clear H1
   have H' := Aside0.mk H
   clear H
   have hnb12 := NB357_358.out
   have hnc12 := NB358_357.out
   have hcz13_0 : w5.cell? ⟨gb357, 0, none⟩ = some (.int .i64 a0_0) := (blk_cell BK357.out 0).trans rfl
   have hcz13_1 : w5.cell? ⟨gb357, 1, none⟩ = some (.int .i64 a0_1) := (blk_cell BK357.out 1).trans rfl
   have hcz13_2 : w5.cell? ⟨gb357, 2, none⟩ = some (.bool a0_2) := (blk_cell BK357.out 2).trans rfl
   have hcz13_3 : w5.cell? ⟨gb357, 3, none⟩ = some (.slice A0_3 l0_3.length c0_3) := (blk_cell BK357.out 3).trans rfl
   have hfz13_0 := blk_frozen BK357.out 0
   have hfz13_1 := blk_frozen BK357.out 1
   have hfz13_2 := blk_frozen BK357.out 2
   have hfz13_3 := blk_frozen BK357.out 3
   go_wp2_with (first | ((with_reducible refine gate_callee (f := 16) rfl ?_); refine goesL_ (some 8) rfl rfl Try.func16 (by kernel_rfl) rfl #[.agg #[.int .i64 a0_0, .int .i64 a0_1, .bool a0_2, .slice A0_3 l0_3.length c0_3]] rfl (by (try simp only [List.map_toArray, List.map_cons, List.map_nil]); first | done | rfl | (simp only [List.length_drop, List.length_take]; rfl)) ?_; (with_reducible refine (assessorref51_Valid.calls k a0_0 a0_1 a0_2 _ _ l0_3 false _ ?side1 ?side2 A6.out).mono ?_); (case side1 => repeat (first | exact (Kd.C_below HR0_3.out HB.out) | (with_reducible refine Kd.C_alloc ?_ _) | (with_reducible refine Kd.C_drewN ?_ _) | (with_reducible refine Kd.C_drew ?_))); (case side2 => exact HC0_3.out); rintro e w14 ⟨rfl, hb⟩; refine ⟨_, rfl, ?_⟩; have n0_ := Aside0.mk (blk_below (g := gb357) (o := .cells #[.int .i64 a0_0, .int .i64 a0_1, .bool a0_2, .slice A0_3 l0_3.length c0_3] 24 (0, 0)) (by (with_reducible repeat (first | refine blk_drewN ?_ _ | refine blk_drew ?_ | refine blk_alloc ?_ _)); exact BK357.out) hb); have n1_ := Aside0.mk (blk_below (g := gb358) (o := .cells #[.int .i64 0, .int .i64 0] 27 (0, 0)) (by (with_reducible repeat (first | refine blk_drewN ?_ _ | refine blk_drew ?_ | refine blk_alloc ?_ _)); exact BK358.out) hb); have n2_ := Aside0.mk (below_step (by repeat (first | (with_reducible first | exact HB.out | apply below_alloc | apply pw_below_drewN | apply below_drew1 | refine below_set ?_ GE357.out | refine below_set ?_ GE358.out) | exact HB.out)) hb); clear BK357; clear BK358; clear HB; have BK357 := n0_; have BK358 := n1_; have HB := n2_; clear n0_ n1_ n2_; (try clear hb); (try clear hb2); (try clear hk); (try clear hi)))
   go_meet
   case rel => exact ⟨_, (true), (by first | rfl | (simp; done) | (simp [*]; done)), H', ⟨by first | omega | exact Nat.le_refl _⟩, ⟨by (with_reducible repeat (first | refine blk_drewN ?_ _ | refine blk_drew ?_ | refine blk_alloc ?_ _)); exact BK357.out⟩, ⟨by (with_reducible repeat (first | refine blk_drewN ?_ _ | refine blk_drew ?_ | refine blk_alloc ?_ _)); exact BK358.out⟩, ⟨by repeat (first | (with_reducible first | exact HB.out | apply below_alloc | apply pw_below_drewN | apply below_drew1 | refine below_set ?_ GE357.out | refine below_set ?_ GE358.out) | exact HB.out)⟩⟩
 case rest =>
  clear HC3
  try clear c1
  try clear c2
  try clear p2
  try clear c7
  try clear c9
  try clear c12
  try clear hcz10_0
  try clear hcz10_1
  try clear hcz10_2
  try clear hcz10_3
  try clear hcz13_0
  try clear hcz13_1
  try clear hcz13_2
  try clear hcz13_3
  try clear hfz10_0
  try clear hfz10_1
  try clear hfz10_2
  try clear hfz10_3
  try clear hfz13_0
  try clear hfz13_1
  try clear hfz13_2
  try clear hfz13_3
  obtain ⟨kq, x14_2, rfl, HA, HJ2, BK357, BK358, HB⟩ := hcut
  cases kq with
  | zero => exact absurd HA.out (by simp [assessorref51_Factor.j0])
  | succ kj2 =>
   have H := HA.out
   clear HA
   simp only [assessorref51_Factor.j0] at H
   by_cases c15 : x14_2 = true
   ·subst c15
    have H1 : (some (0, 0)) = some (r1, r2) := by rw [if_pos rfl] at H; exact H
    clear H
    have H := H1
    clear H1
    simp only [Option.some.injEq, Prod.mk.injEq] at H
    obtain ⟨rfl, rfl⟩ := H
    have hnb16 := NB358_357.out
    have hnc16 := NB357_358.out
    have hcz17_0 : wc.cell? ⟨gb358, 0, none⟩ = some (.int .i64 0) := (blk_cell BK358.out 0).trans rfl
    have hcz17_1 : wc.cell? ⟨gb358, 1, none⟩ = some (.int .i64 0) := (blk_cell BK358.out 1).trans rfl
    have hfz17_0 := blk_frozen BK358.out 0
    have hfz17_1 := blk_frozen BK358.out 1
    go_wp2
    refine bodyPost_ret (results_cell_row rfl _ _ gb358 27 #[.int .i64 0, .int .i64 0] (0, 0) _ rfl (by (with_reducible repeat (first | refine blk_drewN ?_ _ | refine blk_drew ?_ | refine blk_alloc ?_ _)); refine blk_put (cs := #[.int .i64 0, .int .i64 0]) ?_ 1 _ rfl; (with_reducible repeat (first | refine blk_drewN ?_ _ | refine blk_drew ?_ | refine blk_alloc ?_ _)); refine blk_put (cs := #[.int .i64 0, .int .i64 0]) ?_ 0 _ rfl; (with_reducible repeat (first | refine blk_drewN ?_ _ | refine blk_drew ?_ | refine blk_alloc ?_ _)); exact BK358.out) Try.underlying27 rfl (by kernel_rfl)) rfl ?_
    exact ⟨by first | rfl | (simp [errW_none, errW_some] <;> rfl) | (simp [*, errW_none, errW_some] <;> rfl), by repeat (first | (with_reducible first | exact HB.out | apply below_alloc | apply pw_below_drewN | apply below_drew1 | refine below_set ?_ GE357.out | refine below_set ?_ GE358.out) | exact HB.out)⟩
   ·replace c15 := Bool.eq_false_iff.mpr c15
    subst c15
    have H1 : ((assessorref51_parts.f kj2 a0_0 a0_1 a0_2 l0_3 a1).bind fun t361 => ((assessorref46_Make.f kj2 t361 10000).bind fun bt362 => (some (bt362.1, bt362.2.1)))) = some (r1, r2) := by rw [if_neg (show ¬ (false = true) by decide)] at H; exact H
    clear H
    have H := H1
    clear H1
    replace H := Option.bind_eq_some_iff.mp H
    obtain ⟨t361, A180, H⟩ := H
    replace H : ((assessorref46_Make.f kj2 t361 10000).bind fun bt362 => (some (bt362.1, bt362.2.1))) = some (r1, r2) := H
    have A18 := Aside0.mk A180
    clear A180
    replace H := Option.bind_eq_some_iff.mp H
    obtain ⟨⟨t362, t363, t364⟩, A190, H⟩ := H
    replace H : (some (t362, t363)) = some (r1, r2) := H
    have A19 := Aside0.mk A190
    clear A190
    simp only [Option.some.injEq, Prod.mk.injEq] at H
    obtain ⟨rfl, rfl⟩ := H
    have hnb20 := NB357_358.out
    have hnc20 := NB358_357.out
    have hcz21_0 : wc.cell? ⟨gb357, 0, none⟩ = some (.int .i64 a0_0) := (blk_cell BK357.out 0).trans rfl
    have hcz21_1 : wc.cell? ⟨gb357, 1, none⟩ = some (.int .i64 a0_1) := (blk_cell BK357.out 1).trans rfl
    have hcz21_2 : wc.cell? ⟨gb357, 2, none⟩ = some (.bool a0_2) := (blk_cell BK357.out 2).trans rfl
    have hcz21_3 : wc.cell? ⟨gb357, 3, none⟩ = some (.slice A0_3 l0_3.length c0_3) := (blk_cell BK357.out 3).trans rfl
    have hfz21_0 := blk_frozen BK357.out 0
    have hfz21_1 := blk_frozen BK357.out 1
    have hfz21_2 := blk_frozen BK357.out 2
    have hfz21_3 := blk_frozen BK357.out 3
    go_wp2_with (first | ((with_reducible refine gate_callee (f := 38) rfl ?_); refine goesL_ (some 19) rfl rfl Try.func38 (by kernel_rfl) rfl #[.agg #[.int .i64 a0_0, .int .i64 a0_1, .bool a0_2, .slice A0_3 l0_3.length c0_3], .int .i64 a1] rfl (by (try simp only [List.map_toArray, List.map_cons, List.map_nil]); first | done | rfl | (simp only [List.length_drop, List.length_take]; rfl)) ?_; (with_reducible refine (assessorref51_parts.calls kj2 a0_0 a0_1 a0_2 _ _ l0_3 a1 t361 _ ?side1 ?side2 A18.out).mono ?_); (case side1 => repeat (first | exact (Kd.C_below HR0_3.out HB.out) | (with_reducible refine Kd.C_alloc ?_ _) | (with_reducible refine Kd.C_drewN ?_ _) | (with_reducible refine Kd.C_drew ?_))); (case side2 => exact HC0_3.out); rintro e w22 ⟨rfl, hb⟩; refine ⟨_, rfl, ?_⟩; have n0_ := Aside0.mk (blk_below (g := gb357) (o := .cells #[.int .i64 a0_0, .int .i64 a0_1, .bool a0_2, .slice A0_3 l0_3.length c0_3] 24 (0, 0)) (by (with_reducible repeat (first | refine blk_drewN ?_ _ | refine blk_drew ?_ | refine blk_alloc ?_ _)); exact BK357.out) hb); have n1_ := Aside0.mk (blk_below (g := gb358) (o := .cells #[.int .i64 0, .int .i64 0] 27 (0, 0)) (by (with_reducible repeat (first | refine blk_drewN ?_ _ | refine blk_drew ?_ | refine blk_alloc ?_ _)); exact BK358.out) hb); have n2_ := Aside0.mk (below_step (by repeat (first | (with_reducible first | exact HB.out | apply below_alloc | apply pw_below_drewN | apply below_drew1 | refine below_set ?_ GE357.out | refine below_set ?_ GE358.out) | exact HB.out)) hb); clear BK357; clear BK358; clear HB; have BK357 := n0_; have BK358 := n1_; have HB := n2_; clear n0_ n1_ n2_; (try clear hb); (try clear hb2); (try clear hk); (try clear hi)) | ((with_reducible refine gate_callee (f := 14) rfl ?_); refine goesL_ (some 20) rfl rfl Try.func14 (by kernel_rfl) rfl #[.int .i64 t361, .int .i64 10000] rfl (by (try simp only [List.map_toArray, List.map_cons, List.map_nil]); first | done | rfl | (simp only [List.length_drop, List.length_take]; rfl)) ?_; (with_reducible refine (assessorref46_Make.calls kj2 t361 10000 t362 t363 t364 _ A19.out).mono ?_); rintro e w23 ⟨rfl, hb⟩; refine ⟨_, rfl, ?_⟩; have n0_ := Aside0.mk (blk_below (g := gb357) (o := .cells #[.int .i64 a0_0, .int .i64 a0_1, .bool a0_2, .slice A0_3 l0_3.length c0_3] 24 (0, 0)) (by (with_reducible repeat (first | refine blk_drewN ?_ _ | refine blk_drew ?_ | refine blk_alloc ?_ _)); exact BK357.out) hb); have n1_ := Aside0.mk (blk_below (g := gb358) (o := .cells #[.int .i64 0, .int .i64 0] 27 (0, 0)) (by (with_reducible repeat (first | refine blk_drewN ?_ _ | refine blk_drew ?_ | refine blk_alloc ?_ _)); exact BK358.out) hb); have n2_ := Aside0.mk (below_step (by repeat (first | (with_reducible first | exact HB.out | apply below_alloc | apply pw_below_drewN | apply below_drew1 | refine below_set ?_ GE357.out | refine below_set ?_ GE358.out) | exact HB.out)) hb); clear BK357; clear BK358; clear HB; have BK357 := n0_; have BK358 := n1_; have HB := n2_; clear n0_ n1_ n2_; (try clear hb); (try clear hb2); (try clear hk); (try clear hi)) | ((with_reducible refine gate_dst (N := 5) rfl ?_); refine box_event ?hg (N := 5) ?hd (cs := #[.int .i64 0, .int .i64 0]) (t := 27) ?hr ?_; (case hd => rfl); (case hg => rfl); (case hr => first | (go_simp; done) | (go_simp; rfl)); intro gb365 hg w24 hbox hb; have n0_ := Aside0.mk (blk_below (g := gb357) (o := .cells #[.int .i64 a0_0, .int .i64 a0_1, .bool a0_2, .slice A0_3 l0_3.length c0_3] 24 (0, 0)) (by (with_reducible repeat (first | refine blk_drewN ?_ _ | refine blk_drew ?_ | refine blk_alloc ?_ _)); exact BK357.out) hb); have n1_ := Aside0.mk (blk_below (g := gb358) (o := .cells #[.int .i64 0, .int .i64 0] 27 (0, 0)) (by (with_reducible repeat (first | refine blk_drewN ?_ _ | refine blk_drew ?_ | refine blk_alloc ?_ _)); exact BK358.out) hb); have n2_ := Aside0.mk (below_step (by repeat (first | (with_reducible first | exact HB.out | apply below_alloc | apply pw_below_drewN | apply below_drew1 | refine below_set ?_ GE357.out | refine below_set ?_ GE358.out) | exact HB.out)) hb); have n3_ := Aside0.mk (hbox); have n4_ := Aside0.mk ((by rw [hg]; exact (below_size (by repeat (first | (with_reducible first | exact HB.out | apply below_alloc | apply pw_below_drewN | apply below_drew1 | refine below_set ?_ GE357.out | refine below_set ?_ GE358.out) | exact HB.out))) : w.heap.size ≤ gb365)); have n5_ := Aside0.mk ((by rw [hg]; exact (below_size (by repeat (first | (with_reducible first | exact HB.out | apply below_alloc | apply pw_below_drewN | apply below_drew1 | refine below_set ?_ GE357.out | refine below_set ?_ GE358.out) | exact HB.out))) : w.heap.size ≤ gb365)); have n6_ := Aside0.mk ((by rw [hg]; exact Nat.ne_of_lt (blk_lt (g := gb357) (o := .cells #[.int .i64 a0_0, .int .i64 a0_1, .bool a0_2, .slice A0_3 l0_3.length c0_3] 24 (0, 0)) (by (with_reducible repeat (first | refine blk_drewN ?_ _ | refine blk_drew ?_ | refine blk_alloc ?_ _)); exact BK357.out)) : gb357 ≠ gb365)); have n7_ := Aside0.mk ((by rw [hg]; exact Nat.ne_of_gt (blk_lt (g := gb357) (o := .cells #[.int .i64 a0_0, .int .i64 a0_1, .bool a0_2, .slice A0_3 l0_3.length c0_3] 24 (0, 0)) (by (with_reducible repeat (first | refine blk_drewN ?_ _ | refine blk_drew ?_ | refine blk_alloc ?_ _)); exact BK357.out)) : gb365 ≠ gb357)); have n8_ := Aside0.mk ((by rw [hg]; exact Nat.ne_of_lt (blk_lt (g := gb358) (o := .cells #[.int .i64 0, .int .i64 0] 27 (0, 0)) (by (with_reducible repeat (first | refine blk_drewN ?_ _ | refine blk_drew ?_ | refine blk_alloc ?_ _)); exact BK358.out)) : gb358 ≠ gb365)); have n9_ := Aside0.mk ((by rw [hg]; exact Nat.ne_of_gt (blk_lt (g := gb358) (o := .cells #[.int .i64 0, .int .i64 0] 27 (0, 0)) (by (with_reducible repeat (first | refine blk_drewN ?_ _ | refine blk_drew ?_ | refine blk_alloc ?_ _)); exact BK358.out)) : gb365 ≠ gb358)); clear BK357; clear BK358; clear HB; have BK357 := n0_; have BK358 := n1_; have HB := n2_; have BK365 := n3_; have GW365 := n4_; have GE365 := n5_; have NB357_365 := n6_; have NB365_357 := n7_; have NB358_365 := n8_; have NB365_358 := n9_; clear n0_ n1_ n2_ n3_ n4_ n5_ n6_ n7_ n8_ n9_; clear hb hbox hg; have hnb25 := NB365_357.out; have hnc25 := NB357_365.out; have hnb26 := NB365_358.out; have hnc26 := NB358_365.out; have hcz27_0 : w24.cell? ⟨gb365, 0, none⟩ = some (.int .i64 0) := (blk_cell BK365.out 0).trans rfl; have hcz27_1 : w24.cell? ⟨gb365, 1, none⟩ = some (.int .i64 0) := (blk_cell BK365.out 1).trans rfl; have hfz27_0 := blk_frozen BK365.out 0; have hfz27_1 := blk_frozen BK365.out 1; have hcz28_0 : w24.cell? ⟨gb358, 0, none⟩ = some (.int .i64 0) := (blk_cell BK358.out 0).trans rfl; have hcz28_1 : w24.cell? ⟨gb358, 1, none⟩ = some (.int .i64 0) := (blk_cell BK358.out 1).trans rfl; have hfz28_0 := blk_frozen BK358.out 0; have hfz28_1 := blk_frozen BK358.out 1))
    refine bodyPost_ret (results_cell_row rfl _ _ gb358 27 #[.int .i64 t362, .int .i64 t363] (0, 0) _ rfl (by (with_reducible repeat (first | refine blk_drewN ?_ _ | refine blk_drew ?_ | refine blk_alloc ?_ _)); refine blk_put (cs := #[.int .i64 t362, .int .i64 0]) ?_ 1 _ rfl; (with_reducible repeat (first | refine blk_drewN ?_ _ | refine blk_drew ?_ | refine blk_alloc ?_ _)); refine blk_put (cs := #[.int .i64 0, .int .i64 0]) ?_ 0 _ rfl; (with_reducible repeat (first | refine blk_drewN ?_ _ | refine blk_drew ?_ | refine blk_alloc ?_ _)); refine blk_far ?_ NB358_365.out _; (with_reducible repeat (first | refine blk_drewN ?_ _ | refine blk_drew ?_ | refine blk_alloc ?_ _)); refine blk_far ?_ NB358_365.out _; (with_reducible repeat (first | refine blk_drewN ?_ _ | refine blk_drew ?_ | refine blk_alloc ?_ _)); exact BK358.out) Try.underlying27 rfl (by kernel_rfl)) rfl ?_
    exact ⟨by first | rfl | (simp [errW_none, errW_some] <;> rfl) | (simp [*, errW_none, errW_some] <;> rfl), by repeat (first | (with_reducible first | exact HB.out | apply below_alloc | apply pw_below_drewN | apply below_drew1 | refine below_set ?_ GE357.out | refine below_set ?_ GE358.out | refine below_set ?_ GE365.out) | exact HB.out)⟩

/-! ### assessorref49_Ints: function 26 -/
def assessorref49_Ints.l0 : Nat → List Int → List Int → Int → Option (Bool)
 | 0, _, _, _ => none
 | k + 1, x0, x1, x5 => if x5 < (x0.length : Int) then (if 0 ≤ x5 then (if x5 < (x1.length : Int) then (if (rd x0 x5) = (rd x1 x5) then (assessorref49_Ints.l0 k x0 x1 (wrap64 (x5 + 1))) else (some false)) else (none)) else (none)) else (some true)
def assessorref49_Ints.f (k : Nat) (l0 : List Int) (l1 : List Int) : Option (Bool) := if (l0.length : Int) = (l1.length : Int) then (assessorref49_Ints.l0 k l0 l1 0) else (some false)
theorem assessorref49_Ints.mono_l : ∀ k, (∀ y0 y1 y2, LeO (assessorref49_Ints.l0 k y0 y1 y2) (assessorref49_Ints.l0 (k + 1) y0 y1 y2))
 | 0 => fun _ _ _ r h => by simp [assessorref49_Ints.l0] at h
 | k + 1 => by
  have ih0 := assessorref49_Ints.mono_l k
  ·intro y0 y1 y2
   unfold assessorref49_Ints.l0
   repeat' first
   | (with_reducible exact ih0 _ _ _)
   | (with_reducible exact LeO.refl _)
   | (with_reducible exact LeO.none _)
   | (with_reducible refine LeO.ite ?_ ?_)
   | (with_reducible refine LeO.bind ?_ (fun _ => ?_))
   | exact ih0 _ _ _
   | exact LeO.none _
   | refine LeO.ite ?_ ?_
   | refine LeO.bind ?_ (fun _ => ?_)
theorem assessorref49_Ints.mono : ∀ a0 a1 k, LeO (assessorref49_Ints.f k a0 a1) (assessorref49_Ints.f (k + 1) a0 a1) := by
 intro a0 a1 k
 have ih0 := assessorref49_Ints.mono_l k
 unfold assessorref49_Ints.f
 repeat' first
   | (with_reducible exact ih0 _ _ _)
   | (with_reducible exact LeO.refl _)
   | (with_reducible exact LeO.none _)
   | (with_reducible refine LeO.ite ?_ ?_)
   | (with_reducible refine LeO.bind ?_ (fun _ => ?_))
   | exact ih0 _ _ _
   | exact LeO.none _
   | refine LeO.ite ?_ ?_
   | refine LeO.bind ?_ (fun _ => ?_)
set_option maxHeartbeats 8000000 in
set_option maxRecDepth 100000 in
theorem assessorref49_Ints.calls (k : Nat) (A0 : Option Addr) (c0 : Nat) (l0 : List Int) (A1 : Option Addr) (c1 : Nat) (l1 : List Int) (r : Bool) (w : World) (hr0 : Kd.C (Kd.int .i64) w A0 l0.length l0) (hc0 : l0.length ≤ c0) (hr1 : Kd.C (Kd.int .i64) w A1 l1.length l1) (hc1 : l1.length ≤ c1) (h : assessorref49_Ints.f k l0 l1 = some r) :
  Calls Try.prog 26 #[.slice A0 l0.length c0, .slice A1 l1.length c1] w fun e w' => e = .returned (.bool r) ∧ Drawn0 w w' := by
 have HR0 := Aside0.mk hr0
 have HC0 := Aside0.mk hc0
 clear hr0 hc0
 have HR1 := Aside0.mk hr1
 have HC1 := Aside0.mk hc1
 clear hr1 hc1
 have H : (if (l0.length : Int) = (l1.length : Int) then (assessorref49_Ints.l0 k l0 l1 0) else (some false)) = some r := h
 clear h
 by_cases c3 : (l0.length : Int) = (l1.length : Int)
 ·rw [if_pos c3] at H
  have c3b0 : ((l0.length : Int) == (l1.length : Int)) = true := beq_iff_eq.mpr c3
  have c3b1 : ((l0.length : Int) != (l1.length : Int)) = false := bne_eq_false_iff_eq.mpr c3
  have c3b2 : (l0.length == l1.length) = true := by first | simpa using c3 | (simp at c3 ⊢; omega)
  clear c3
  have H' := Aside0.mk H
  clear H
  go_enter Try.func26, Try.ntmps26
  go_wp2
  repeat (go_quiet (fail); try go_wp2)
  go_loopg [5] k (fun kq v5 w' => ∃ (x5_1 : Int), v5 = .int .i64 x5_1 ∧ Aside0 (assessorref49_Ints.l0 kq l0 l1 x5_1 = some r) ∧ Aside0 (kq ≤ k) ∧ Drawn0 w w')
  case atStart => exact ⟨(0), (by first | rfl | (simp; done) | (simp [*]; done)), H', ⟨Nat.le_refl _⟩, by repeat (first | exact Drawn0.refl _ | apply Drawn0.step)⟩
  case round =>
   clear H'
   try clear c1
   try clear c2
   try clear p2
   try clear c3
   try clear c3b0
   try clear c3b1
   try clear c3b2
   obtain ⟨x5_1, rfl, HA, HK1, ⟨m1, rfl⟩⟩ := hrel
   cases gk with
   | zero => exact absurd HA.out (by simp [assessorref49_Ints.l0])
   | succ k1 =>
    have H := HA.out
    clear HA
    simp only [assessorref49_Ints.l0] at H
    by_cases c4 : x5_1 < (l0.length : Int)
    ·rw [if_pos c4] at H
     have c4b0 : decide (x5_1 < (l0.length : Int)) = true := decide_eq_true c4
     clear c4
     by_cases c5 : 0 ≤ x5_1
     ·rw [if_pos c5] at H
      have c5b0 : decide (0 ≤ x5_1) = true := decide_eq_true c5
      clear c5
      by_cases c6 : x5_1 < (l1.length : Int)
      ·rw [if_pos c6] at H
       have c6b0 : decide (x5_1 < (l1.length : Int)) = true := decide_eq_true c6
       clear c6
       by_cases c7 : (rd l0 x5_1) = (rd l1 x5_1)
       ·rw [if_pos c7] at H
        have c7b0 : ((rd l0 x5_1) == (rd l1 x5_1)) = true := beq_iff_eq.mpr c7
        have c7b1 : ((rd l0 x5_1) != (rd l1 x5_1)) = false := bne_eq_false_iff_eq.mpr c7
        clear c7
        have H' := Aside0.mk H
        clear H
        have p366 : 0 ≤ (x5_1 : Int) := of_decide_eq_true (by first | (with_reducible assumption) | assumption)
        have q366 : x5_1 < (l0.length : Int) := of_decide_eq_true (by first | (with_reducible assumption) | assumption)
        obtain ⟨ad366, e366, hx366_0⟩ := Kd.at_int HR0.out x5_1 p366 q366
        cases e366
        replace p366 := eq_true p366
        replace q366 := eq_true q366
        have p367 : 0 ≤ (x5_1 : Int) := of_decide_eq_true (by first | (with_reducible assumption) | assumption)
        have q367 : x5_1 < (l1.length : Int) := of_decide_eq_true (by first | (with_reducible assumption) | assumption)
        obtain ⟨ad367, e367, hx367_0⟩ := Kd.at_int HR1.out x5_1 p367 q367
        cases e367
        replace p367 := eq_true p367
        replace q367 := eq_true q367
        go_wp2
        repeat (go_quiet (fail); try go_wp2)
        go_roundg k1
        case measure => have := HK1.out; omega
        case rel => exact ⟨(wrap64 (x5_1 + 1)), (by first | rfl | (simp; done) | (simp [*]; done)), H', ⟨by have := HK1.out; omega⟩, by repeat (first | exact Drawn0.refl _ | apply Drawn0.step)⟩
       ·rw [if_neg c7] at H
        have c7b0 : ((rd l0 x5_1) == (rd l1 x5_1)) = false := beq_eq_false_iff_ne.mpr c7
        have c7b1 : ((rd l0 x5_1) != (rd l1 x5_1)) = true := bne_iff_ne.mpr c7
        obtain rfl := Option.some.inj H
        have p366 : 0 ≤ (x5_1 : Int) := of_decide_eq_true (by first | (with_reducible assumption) | assumption)
        have q366 : x5_1 < (l0.length : Int) := of_decide_eq_true (by first | (with_reducible assumption) | assumption)
        obtain ⟨ad366, e366, hx366_0⟩ := Kd.at_int HR0.out x5_1 p366 q366
        cases e366
        replace p366 := eq_true p366
        replace q366 := eq_true q366
        have p367 : 0 ≤ (x5_1 : Int) := of_decide_eq_true (by first | (with_reducible assumption) | assumption)
        have q367 : x5_1 < (l1.length : Int) := of_decide_eq_true (by first | (with_reducible assumption) | assumption)
        obtain ⟨ad367, e367, hx367_0⟩ := Kd.at_int HR1.out x5_1 p367 q367
        cases e367
        replace p367 := eq_true p367
        replace q367 := eq_true q367
        go_wp2
        repeat (go_quiet (fail); try go_wp2)
        go_ret
        exact ⟨by first | rfl | (simp; done) | (simp [*]; done), by repeat (first | exact Drawn0.refl _ | apply Drawn0.step)⟩
      ·rw [if_neg c6] at H
       exact absurd H (by simp)
     ·rw [if_neg c5] at H
      exact absurd H (by simp)
    ·rw [if_neg c4] at H
     have c4b0 : decide (x5_1 < (l0.length : Int)) = false := decide_eq_false c4
     clear c4
     obtain rfl := Option.some.inj H
     go_wp2
     repeat (go_quiet (fail); try go_wp2)
     go_ret
     exact ⟨by first | rfl | (simp; done) | (simp [*]; done), by repeat (first | exact Drawn0.refl _ | apply Drawn0.step)⟩
 ·rw [if_neg c3] at H
  have c3b0 : ((l0.length : Int) == (l1.length : Int)) = false := beq_eq_false_iff_ne.mpr c3
  have c3b1 : ((l0.length : Int) != (l1.length : Int)) = true := bne_iff_ne.mpr c3
  have c3b2 : (l0.length == l1.length) = false := by first | simpa using c3 | (simp at c3 ⊢; omega)
  obtain rfl := Option.some.inj H
  go_enter Try.func26, Try.ntmps26
  go_wp2
  repeat (go_quiet (fail); try go_wp2)
  go_ret
  exact ⟨by first | rfl | (simp; done) | (simp [*]; done), by repeat (first | exact Drawn0.refl _ | apply Drawn0.step)⟩

/-! ### assessorref51_Spend: function 27 -/
def assessorref51_Spend.l0 : Nat → List Int → Int → List Int → Int → Option (List Int)
 | 0, _, _, _, _ => none
 | k + 1, x0, x5, x6, x7 => if x7 < (x0.length : Int) then (if 0 ≤ x7 then (if x6.length < 17592186044416 then (assessorref51_Spend.l0 k x0 (wrap64 (x5 - (mn (mn (mx (rd x0 x7) 0) 1099511627776) x5))) (x6 ++ [wrap64 ((mn (mx (rd x0 x7) 0) 1099511627776) - (mn (mn (mx (rd x0 x7) 0) 1099511627776) x5))]) (wrap64 (x7 + 1))) else (none)) else (none)) else (some x6)
def assessorref51_Spend.f (k : Nat) (l0 : List Int) (a1 : Int) : Option (List Int) := assessorref51_Spend.l0 k l0 (mn (mx a1 0) 1099511627776) (([] : List Int)) 0
theorem assessorref51_Spend.mono_l : ∀ k, (∀ y0 y1 y2 y3, LeO (assessorref51_Spend.l0 k y0 y1 y2 y3) (assessorref51_Spend.l0 (k + 1) y0 y1 y2 y3))
 | 0 => fun _ _ _ _ r h => by simp [assessorref51_Spend.l0] at h
 | k + 1 => by
  have ih0 := assessorref51_Spend.mono_l k
  ·intro y0 y1 y2 y3
   unfold assessorref51_Spend.l0
   repeat' first
   | (with_reducible exact ih0 _ _ _ _)
   | (with_reducible exact LeO.refl _)
   | (with_reducible exact LeO.none _)
   | (with_reducible refine LeO.ite ?_ ?_)
   | (with_reducible refine LeO.bind ?_ (fun _ => ?_))
   | exact ih0 _ _ _ _
   | exact LeO.none _
   | refine LeO.ite ?_ ?_
   | refine LeO.bind ?_ (fun _ => ?_)
theorem assessorref51_Spend.mono : ∀ a0 a1 k, LeO (assessorref51_Spend.f k a0 a1) (assessorref51_Spend.f (k + 1) a0 a1) := by
 intro a0 a1 k
 have ih0 := assessorref51_Spend.mono_l k
 unfold assessorref51_Spend.f
 repeat' first
   | (with_reducible exact ih0 _ _ _ _)
   | (with_reducible exact LeO.refl _)
   | (with_reducible exact LeO.none _)
   | (with_reducible refine LeO.ite ?_ ?_)
   | (with_reducible refine LeO.bind ?_ (fun _ => ?_))
   | exact ih0 _ _ _ _
   | exact LeO.none _
   | refine LeO.ite ?_ ?_
   | refine LeO.bind ?_ (fun _ => ?_)
set_option maxHeartbeats 8000000 in
set_option maxRecDepth 100000 in
theorem assessorref51_Spend.calls (k : Nat) (A0 : Option Addr) (c0 : Nat) (l0 : List Int) (a1 : Int) (r : List Int) (w : World) (hr0 : Kd.C (Kd.int .i64) w A0 l0.length l0) (hc0 : l0.length ≤ c0) (h : assessorref51_Spend.f k l0 a1 = some r) :
  Calls Try.prog 27 #[.slice A0 l0.length c0, .int .i64 a1] w fun e w' => ∃ v0_ : Value, e = .returned (v0_) ∧ Kd.R (Kd.int .i64) 3 w' w.heap.size (fun _ => True) v0_ r ∧ Below w.heap.size w w' := by
 have HR0 := Aside0.mk hr0
 have HC0 := Aside0.mk hc0
 clear hr0 hc0
 have HB := Aside0.mk (Below.refl w.heap.size w)
 have H : (assessorref51_Spend.l0 k l0 (mn (mx a1 0) 1099511627776) (([] : List Int)) 0) = some r := h
 clear h
 obtain ⟨ji3, hji3⟩ : ∃ j_ : Int, (mx a1 0) = j_ := ⟨_, rfl⟩
 replace H : (assessorref51_Spend.l0 k l0 (mn (ji3) 1099511627776) (([] : List Int)) 0) = some r := by first | (rw [hji3] at H; exact H) | (simp only [hji3] at H ⊢; exact H)
 (try (have hji3l : 0 ≤ ji3 := by (rw [← hji3]; unfold mx; (repeat' split) <;> omega)))
 (try (have hji3m : 0 ≤ ji3 := by omega))
 have hji3_ : (if a1 < 0 then 0 else a1) = ji3 := hji3
 obtain ⟨ji4, hji4⟩ : ∃ j_ : Int, (mn (ji3) 1099511627776) = j_ := ⟨_, rfl⟩
 replace H : (assessorref51_Spend.l0 k l0 ji4 (([] : List Int)) 0) = some r := by first | (rw [hji4] at H; exact H) | (simp only [hji4] at H ⊢; exact H)
 have hji4_ : (if 1099511627776 < (ji3) then 1099511627776 else (ji3)) = ji4 := hji4
 obtain ⟨y368, hy368⟩ : ∃ y_ : List Int, y_ = (([] : List Int)) := ⟨_, rfl⟩
 replace H : (assessorref51_Spend.l0 k l0 ji4 y368 0) = some r := by first | (rw [hy368]; with_reducible exact H) | (have H2_ := (Option.bind_some _ _).symm.trans H; rw [hy368]; with_reducible exact H2_) | (have H2_ := (Option.bind_some _ _).symm.trans H; with_reducible exact H2_) | with_reducible exact H | (rw [hy368]; exact H) | exact H
 have Ny368 := Aside0.mk hy368
 clear hy368
 have H' := Aside0.mk H
 clear H
 go_enter Try.func27, Try.ntmps27
 go_wp2_with (first | ((with_reducible refine gate_dst (N := 13) rfl ?_); refine Kd.R_lit (Kd.int .i64) _ 3 ?hg (N := 13) ?hd (xs := ([] : List Int)) (inner := []) (ok := fun _ => True) (okp := fun _ => True) ?hr ?hp (fun _ hk => hk) trivial (Below.refl _ _) (Nat.le_refl _) (by simp) ?_; (case hd => rfl); (case hg => rfl); (case hr => first | (go_simp; done) | (go_simp; rfl)); (case hp => exact (Reps.none _ _)); intro v369 w5 ho6 hb hg_ hnew_; clear hg_ hnew_; (first | rw [← Ny368.out] at ho6 | (simp only [Int.reduceToNat] at ho6; rw [← Ny368.out] at ho6)); have n0_ := Aside0.mk (Kd.R_lower ho6 (below_size (by repeat (first | (with_reducible first | exact HB.out | apply below_alloc | apply pw_below_drewN | apply below_drew1) | exact HB.out)))); have n1_ := Aside0.mk (below_step (by repeat (first | (with_reducible first | exact HB.out | apply below_alloc | apply pw_below_drewN | apply below_drew1) | exact HB.out)) hb); clear HB; have HO370 := n0_; have HB := n1_; clear n0_ n1_; clear hb ho6))
 go_loopg [5, 6, 7] k (fun kq v5 v6 v7 w' => ∃ (x5_1 : Int) (x6_1 : List Int) (x7_1 : Int), v5 = .int .i64 x5_1 ∧ v7 = .int .i64 x7_1 ∧ Aside0 (assessorref51_Spend.l0 kq l0 x5_1 x6_1 x7_1 = some r) ∧ Aside0 (kq ≤ k) ∧ Aside0 (Kd.R (Kd.int .i64) 3 w' w.heap.size (fun _ => True) v6 x6_1) ∧ Aside0 (Below w.heap.size w w'))
 case atStart => exact ⟨(ji4), (y368), (0), (by first | rfl | (simp; done) | (simp only [← hji4] <;> (first | rfl | simp)) | (simp [*]; done)), (by first | rfl | (simp; done) | (simp [*]; done)), H', ⟨Nat.le_refl _⟩, ⟨by (with_reducible repeat (first | apply Kd.R_alloc | apply Kd.R_drewN | apply Kd.R_drew)); exact HO370.out⟩, ⟨by repeat (first | (with_reducible first | exact HB.out | apply below_alloc | apply pw_below_drewN | apply below_drew1) | exact HB.out)⟩⟩
 case round =>
  clear H'
  try clear c2
  try clear p2
  obtain ⟨x5_1, x6_1, x7_1, rfl, rfl, HA, HK1, HO_6, HB⟩ := hrel
  cases gk with
  | zero => exact absurd HA.out (by simp [assessorref51_Spend.l0])
  | succ k1 =>
   have H := HA.out
   clear HA
   simp only [assessorref51_Spend.l0] at H
   by_cases c7 : x7_1 < (l0.length : Int)
   ·rw [if_pos c7] at H
    have c7b0 : decide (x7_1 < (l0.length : Int)) = true := decide_eq_true c7
    clear c7
    by_cases c8 : 0 ≤ x7_1
    ·rw [if_pos c8] at H
     have c8b0 : decide (0 ≤ x7_1) = true := decide_eq_true c8
     clear c8
     obtain ⟨ji9, hji9⟩ : ∃ j_ : Int, (mx (rd l0 x7_1) 0) = j_ := ⟨_, rfl⟩
     replace H : (if x6_1.length < 17592186044416 then (assessorref51_Spend.l0 k1 l0 (wrap64 (x5_1 - (mn (mn (ji9) 1099511627776) x5_1))) (x6_1 ++ [wrap64 ((mn (ji9) 1099511627776) - (mn (mn (ji9) 1099511627776) x5_1))]) (wrap64 (x7_1 + 1))) else (none)) = some r := by first | (rw [hji9] at H; exact H) | (simp only [hji9] at H ⊢; exact H)
     have hji9_ : (if (rd l0 x7_1) < 0 then 0 else (rd l0 x7_1)) = ji9 := hji9
     obtain ⟨ji10, hji10⟩ : ∃ j_ : Int, (mn (ji9) 1099511627776) = j_ := ⟨_, rfl⟩
     replace H : (if x6_1.length < 17592186044416 then (assessorref51_Spend.l0 k1 l0 (wrap64 (x5_1 - (mn (ji10) x5_1))) (x6_1 ++ [wrap64 ((ji10) - (mn (ji10) x5_1))]) (wrap64 (x7_1 + 1))) else (none)) = some r := by first | (rw [hji10] at H; exact H) | (simp only [hji10] at H ⊢; exact H)
     have hji10_ : (if 1099511627776 < (ji9) then 1099511627776 else (ji9)) = ji10 := hji10
     obtain ⟨ji11, hji11⟩ : ∃ j_ : Int, (mn (ji10) x5_1) = j_ := ⟨_, rfl⟩
     replace H : (if x6_1.length < 17592186044416 then (assessorref51_Spend.l0 k1 l0 (wrap64 (x5_1 - (ji11))) (x6_1 ++ [wrap64 ((ji10) - (ji11))]) (wrap64 (x7_1 + 1))) else (none)) = some r := by first | (rw [hji11] at H; exact H) | (simp only [hji11] at H ⊢; exact H)
     have hji11_ : (if x5_1 < (ji10) then x5_1 else (ji10)) = ji11 := hji11
     by_cases c12 : x6_1.length < 17592186044416
     ·rw [if_pos c12] at H
      have LMc12 := Aside0.mk c12
      clear c12
      obtain ⟨y372, hy372⟩ : ∃ y_ : List Int, y_ = (x6_1 ++ [wrap64 ((ji10) - (ji11))]) := ⟨_, rfl⟩
      replace H : (assessorref51_Spend.l0 k1 l0 (wrap64 (x5_1 - (ji11))) y372 (wrap64 (x7_1 + 1))) = some r := by first | (rw [hy372]; with_reducible exact H) | (have H2_ := (Option.bind_some _ _).symm.trans H; rw [hy372]; with_reducible exact H2_) | (have H2_ := (Option.bind_some _ _).symm.trans H; with_reducible exact H2_) | with_reducible exact H | (rw [hy372]; exact H) | exact H
      have Ny372 := Aside0.mk hy372
      clear hy372
      have H' := Aside0.mk H
      clear H
      have p371 : 0 ≤ (x7_1 : Int) := of_decide_eq_true (by first | (with_reducible assumption) | assumption)
      have q371 : x7_1 < (l0.length : Int) := of_decide_eq_true (by first | (with_reducible assumption) | assumption)
      obtain ⟨ad371, e371, hx371_0⟩ := Kd.at_int HR0.out x7_1 p371 q371
      cases e371
      replace hx371_0 := (HB.out.cell (World.block_lt_of_cell? w _ hx371_0)).trans hx371_0
      replace p371 := eq_true p371
      replace q371 := eq_true q371
      go_wp2_with (first | ((with_reducible refine gate_builtin (b := .append) (xs := #[.tmp 29, .tmp 33]) rfl ?_); at_builtin; refine Kd.R_append (Kd.int .i64) (w0 := w) w.heap.size rfl (.tmp 29) (.tmp 33) 44 3 (.int .i64 0) 8 rfl Try.underlying44 info3 rfl (by decide) (by omega) u6 x6_1 (wrap64 ((ji10) - (ji11))) [.int .i64 (wrap64 ((ji10) - (ji11)))] (fun _ => True) (fun _ => False) rfl rfl ?aP (fun _ hk => hk.elim) ?aF ?aO ?aB ?aS ?aL ?_; (case aP => exact rfl); (case aB => exact (by repeat (first | (with_reducible first | exact HB.out | apply below_alloc | apply pw_below_drewN | apply below_drew1) | exact HB.out))); (case aF => exact (fun _ _ => trivial)); (case aO => exact (by (with_reducible repeat (first | apply Kd.R_alloc | apply Kd.R_drewN | apply Kd.R_drew)); exact HO_6.out)); (case aS => exact (below_size (by repeat (first | (with_reducible first | exact HB.out | apply below_alloc | apply pw_below_drewN | apply below_drew1) | exact HB.out)))); (case aL => have := LMc12.out; omega); intro v373 w13 ho hb hg hat; rw [← Ny372.out] at ho; have n0_ := Aside0.mk (hb); have n1_ := Aside0.mk (ho); clear HB; clear HO_6; have HB := n0_; have HO374 := n1_; clear n0_ n1_; clear ho hb hg hat))
      go_roundg k1
      case measure => have := HK1.out; omega
      case rel => exact ⟨(wrap64 (x5_1 - (ji11))), (y372), (wrap64 (x7_1 + 1)), (by first | rfl | (simp; done) | (simp only [← hji11] <;> (first | rfl | simp)) | (simp [*]; done)), (by first | rfl | (simp; done) | (simp [*]; done)), H', ⟨by have := HK1.out; omega⟩, ⟨by (with_reducible repeat (first | apply Kd.R_alloc | apply Kd.R_drewN | apply Kd.R_drew)); exact HO374.out⟩, ⟨by repeat (first | (with_reducible first | exact HB.out | apply below_alloc | apply pw_below_drewN | apply below_drew1) | exact HB.out)⟩⟩
     ·rw [if_neg c12] at H
      exact absurd H (by simp)
    ·rw [if_neg c8] at H
     exact absurd H (by simp)
   ·rw [if_neg c7] at H
    have c7b0 : decide (x7_1 < (l0.length : Int)) = false := decide_eq_false c7
    clear c7
    obtain rfl := Option.some.inj H
    go_wp2
    go_ret
    exact ⟨_, by first | rfl | (simp [errW_none, errW_some] <;> rfl) | (simp only [← hji3, ← hji4]; first | rfl | (simp [errW_none, errW_some] <;> rfl)) | (simp [*, errW_none, errW_some] <;> rfl), by (with_reducible repeat (first | apply Kd.R_alloc | apply Kd.R_drewN | apply Kd.R_drew)); exact HO_6.out, by repeat (first | (with_reducible first | exact HB.out | apply below_alloc | apply pw_below_drewN | apply below_drew1) | exact HB.out)⟩

end Go.Proofs.Ytbehhijmcnoeeaa.XA
