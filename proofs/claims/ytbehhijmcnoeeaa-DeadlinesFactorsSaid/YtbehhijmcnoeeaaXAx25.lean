/- Functions of the given Go program as Lean functions, each with a proof that the machine's call answers so; conditions: the premises written in each. -/
import Derived.Test.YtbehhijmcnoeeaaXAx0
import Derived.Test.YtbehhijmcnoeeaaXAx24
namespace Go.Proofs.Ytbehhijmcnoeeaa.XA
open Go.RowKit Go.Proofs.YtbehhijmcnoeeaaW.PrintWords Go.Proofs.YtbehhijmcnoeeaaW.PrintLast Go.Proofs.YtbehhijmcnoeeaaW.PrintMore
attribute [local go_sem] max2_int min2_int max_two min_two max_three min_three max_four min_four   -- for this text's walks alone
set_option linter.unusedVariables false
set_option linter.unusedSimpArgs false

/-! ### assessorref51_parts: function 38 -/
mutual
def assessorref51_parts.l1 : Nat → Int → List (S34) → Int → Option (Int)
 | 0, _, _, _ => none
 | k + 1, x1, x7, x8 => if x8 < (x7.length : Int) then (if 0 ≤ (wrap64 (x8 - 1)) then (if (wrap64 (x8 - 1)) < (x7.length : Int) then (if 0 ≤ x8 then (if ((rd_T34 x7 (wrap64 (x8 - 1))).f0) < x1 then (if x1 ≤ ((rd_T34 x7 x8).f0) then (if (wrap64 (((rd_T34 x7 x8).f0) - ((rd_T34 x7 (wrap64 (x8 - 1))).f0))) = 0 then (none) else (some (wrap64 (Int.tdiv (wrap64 (100 * (wrap64 ((wrap64 (((rd_T34 x7 (wrap64 (x8 - 1))).f1) * (wrap64 (((rd_T34 x7 x8).f0) - x1)))) + (wrap64 (((rd_T34 x7 x8).f1) * (wrap64 (x1 - ((rd_T34 x7 (wrap64 (x8 - 1))).f0))))))))) (wrap64 (((rd_T34 x7 x8).f0) - ((rd_T34 x7 (wrap64 (x8 - 1))).f0))))))) else (assessorref51_parts.l1 k x1 x7 (wrap64 (x8 + 1)))) else (assessorref51_parts.l1 k x1 x7 (wrap64 (x8 + 1)))) else (none)) else (none)) else (none)) else (if 0 ≤ (wrap64 ((x7.length : Int) - 1)) then (if (wrap64 ((x7.length : Int) - 1)) < (x7.length : Int) then (some (wrap64 (100 * ((rd_T34 x7 (wrap64 ((x7.length : Int) - 1))).f1)))) else (none)) else (none))
def assessorref51_parts.l0 : Nat → Int → Int → Int → Int → Int → Bool → List (S34) → Option (Int)
 | 0, _, _, _, _, _, _, _ => none
 | k + 1, x1, x5, x6, x343000, x343001, x343002, x343003 => if x6 < (x343003.length : Int) then (if 0 ≤ x6 then (if ((rd_T34 x343003 x6).f0) < x1 then (assessorref51_parts.l0 k x1 (wrap64 (100 * ((rd_T34 x343003 x6).f1))) (wrap64 (x6 + 1)) x343000 x343001 x343002 x343003) else (assessorref51_parts.l0 k x1 x5 (wrap64 (x6 + 1)) x343000 x343001 x343002 x343003)) else (none)) else (some x5)
end
def assessorref51_parts.f (k : Nat) (a0_0 : Int) (a0_1 : Int) (a0_2 : Bool) (l0_3 : List (S34)) (a1 : Int) : Option (Int) := if a1 = 0 then (some 10000) else (if a0_2 = true then ((assessorref51_knots.f a0_0 a0_1 a0_2 l0_3).bind fun t345 => (assessorref51_parts.l1 k a1 t345 1)) else (assessorref51_parts.l0 k a1 10000 0 a0_0 a0_1 a0_2 l0_3))
theorem assessorref51_parts.mono_l : ∀ k, (∀ y0 y1 y2, LeO (assessorref51_parts.l1 k y0 y1 y2) (assessorref51_parts.l1 (k + 1) y0 y1 y2)) ∧ (∀ y0 y1 y2 y3 y4 y5 y6, LeO (assessorref51_parts.l0 k y0 y1 y2 y3 y4 y5 y6) (assessorref51_parts.l0 (k + 1) y0 y1 y2 y3 y4 y5 y6))
 | 0 => ⟨fun _ _ _ r h => by simp [assessorref51_parts.l1] at h, fun _ _ _ _ _ _ _ r h => by simp [assessorref51_parts.l0] at h⟩
 | k + 1 => by
  obtain ⟨ih0, ih1⟩ := assessorref51_parts.mono_l k
  refine ⟨?_, ?_⟩
  ·intro y0 y1 y2
   unfold assessorref51_parts.l1
   repeat' first
   | (with_reducible exact ih0 _ _ _)
   | (with_reducible exact ih1 _ _ _ _ _ _ _)
   | (with_reducible exact LeO.refl _)
   | (with_reducible exact LeO.none _)
   | (with_reducible refine LeO.ite ?_ ?_)
   | (with_reducible refine LeO.bind ?_ (fun _ => ?_))
   | exact ih0 _ _ _
   | exact ih1 _ _ _ _ _ _ _
   | exact LeO.none _
   | refine LeO.ite ?_ ?_
   | refine LeO.bind ?_ (fun _ => ?_)
  ·intro y0 y1 y2 y3 y4 y5 y6
   unfold assessorref51_parts.l0
   repeat' first
   | (with_reducible exact ih0 _ _ _)
   | (with_reducible exact ih1 _ _ _ _ _ _ _)
   | (with_reducible exact LeO.refl _)
   | (with_reducible exact LeO.none _)
   | (with_reducible refine LeO.ite ?_ ?_)
   | (with_reducible refine LeO.bind ?_ (fun _ => ?_))
   | exact ih0 _ _ _
   | exact ih1 _ _ _ _ _ _ _
   | exact LeO.none _
   | refine LeO.ite ?_ ?_
   | refine LeO.bind ?_ (fun _ => ?_)
theorem assessorref51_parts.mono : ∀ a0 a1 a2 a3 a4 k, LeO (assessorref51_parts.f k a0 a1 a2 a3 a4) (assessorref51_parts.f (k + 1) a0 a1 a2 a3 a4) := by
 intro a0 a1 a2 a3 a4 k
 obtain ⟨ih0, ih1⟩ := assessorref51_parts.mono_l k
 unfold assessorref51_parts.f
 repeat' first
   | (with_reducible exact ih0 _ _ _)
   | (with_reducible exact ih1 _ _ _ _ _ _ _)
   | (with_reducible exact LeO.refl _)
   | (with_reducible exact LeO.none _)
   | (with_reducible refine LeO.ite ?_ ?_)
   | (with_reducible refine LeO.bind ?_ (fun _ => ?_))
   | exact ih0 _ _ _
   | exact ih1 _ _ _ _ _ _ _
   | exact LeO.none _
   | refine LeO.ite ?_ ?_
   | refine LeO.bind ?_ (fun _ => ?_)
def assessorref51_parts.T15 : Bool × List (List Nat × List Nat) := (true, [([], []), ([], []), ([1], [1]), ([0, 2], [0, 2]), ([3], [3]), ([], []), ([], []), ([5, 6], [5, 6]), ([7], [7]), ([], []), ([], []), ([9, 4, 0, 1, 2, 3, 4, 9, 10], [4, 9]), ([10, 8, 11, 0, 1, 2, 3, 4, 5, 6, 7, 8, 9, 10, 11], [8, 10])])
def assessorref51_parts.B15 : List Nat := [0, 0, 2, 7, 15, 0, 0, 96, 224, 0, 0, 1567, 4095]
theorem assessorref51_parts.tab15 : rtab .any (opsOf Try.f38 15) = assessorref51_parts.T15 := by kernel_rfl
theorem assessorref51_parts.bits15 : waitsOk assessorref51_parts.T15.2 assessorref51_parts.B15 = true := by kernel_rfl
set_option maxHeartbeats 8000000 in
set_option maxRecDepth 100000 in
theorem assessorref51_parts.calls (k : Nat) (a0_0 : Int) (a0_1 : Int) (a0_2 : Bool) (A0_3 : Option Addr) (c0_3 : Nat) (l0_3 : List (S34)) (a1 : Int) (r : Int) (w : World) (hr0_3 : Kd.C k34 w A0_3 l0_3.length l0_3) (hc0_3 : l0_3.length ≤ c0_3) (h : assessorref51_parts.f k a0_0 a0_1 a0_2 l0_3 a1 = some r) :
  Calls Try.prog 38 #[.agg #[.int .i64 a0_0, .int .i64 a0_1, .bool a0_2, .slice A0_3 l0_3.length c0_3], .int .i64 a1] w fun e w' => e = .returned (.int .i64 r) ∧ Below w.heap.size w w' := by
 have hu24 := Try.underlying24
 have hu34 := Try.underlying34
 have HR0_3 := Aside0.mk hr0_3
 have HC0_3 := Aside0.mk hc0_3
 clear hr0_3 hc0_3
 have HB := Aside0.mk (Below.refl w.heap.size w)
 have H : (if a1 = 0 then (some 10000) else (if a0_2 = true then ((assessorref51_knots.f a0_0 a0_1 a0_2 l0_3).bind fun t345 => (assessorref51_parts.l1 k a1 t345 1)) else (assessorref51_parts.l0 k a1 10000 0 a0_0 a0_1 a0_2 l0_3))) = some r := h
 clear h
 by_cases c3 : a1 = 0
 ·rw [if_pos c3] at H
  have c3b0 : (a1 == 0) = true := beq_iff_eq.mpr c3
  have c3b1 : (a1 != 0) = false := bne_eq_false_iff_eq.mpr c3
  clear c3
  obtain rfl := Option.some.inj H
  go_enter Try.func38, Try.ntmps38
  go_wp2_with (first | ((with_reducible refine gate_dst (N := 2) rfl ?_); refine box_event ?hg (N := 2) ?hd (cs := #[.int .i64 a0_0, .int .i64 a0_1, .bool a0_2, .slice A0_3 l0_3.length c0_3]) (t := 24) ?hr ?_; (case hd => rfl); (case hg => rfl); (case hr => first | (go_simp; done) | (go_simp; rfl)); intro gb342 hg w4 hbox hb; have n0_ := Aside0.mk (below_step (by repeat (first | (with_reducible first | exact HB.out | apply below_alloc | apply pw_below_drewN | apply below_drew1) | exact HB.out)) hb); have n1_ := Aside0.mk (hbox); have n2_ := Aside0.mk ((by rw [hg]; exact (below_size (by repeat (first | (with_reducible first | exact HB.out | apply below_alloc | apply pw_below_drewN | apply below_drew1) | exact HB.out))) : w.heap.size ≤ gb342)); have n3_ := Aside0.mk ((by rw [hg]; exact (below_size (by repeat (first | (with_reducible first | exact HB.out | apply below_alloc | apply pw_below_drewN | apply below_drew1) | exact HB.out))) : w.heap.size ≤ gb342)); clear HB; have HB := n0_; have BK342 := n1_; have GW342 := n2_; have GE342 := n3_; clear n0_ n1_ n2_ n3_; clear hb hbox hg))
  go_ret
  exact ⟨by first | rfl | (simp [errW_none, errW_some] <;> rfl) | (simp [*, errW_none, errW_some] <;> rfl), by repeat (first | (with_reducible first | exact HB.out | apply below_alloc | apply pw_below_drewN | apply below_drew1 | refine below_set ?_ GE342.out) | exact HB.out)⟩
 ·rw [if_neg c3] at H
  have c3b0 : (a1 == 0) = false := beq_eq_false_iff_ne.mpr c3
  have c3b1 : (a1 != 0) = true := bne_iff_ne.mpr c3
  by_cases c5 : a0_2 = true
  ·subst c5
   have H1 : ((assessorref51_knots.f a0_0 a0_1 true l0_3).bind fun t345 => (assessorref51_parts.l1 k a1 t345 1)) = some r := by rw [if_pos rfl] at H; exact H
   clear H
   have H := H1
   clear H1
   replace H := Option.bind_eq_some_iff.mp H
   obtain ⟨t345, A60, H⟩ := H
   replace H : (assessorref51_parts.l1 k a1 t345 1) = some r := H
   have A6 := Aside0.mk A60
   clear A60
   have H' := Aside0.mk H
   clear H
   go_enter Try.func38, Try.ntmps38
   go_wp2_with (first | ((with_reducible refine gate_dst (N := 2) rfl ?_); refine box_event ?hg (N := 2) ?hd (cs := #[.int .i64 a0_0, .int .i64 a0_1, .bool true, .slice A0_3 l0_3.length c0_3]) (t := 24) ?hr ?_; (case hd => rfl); (case hg => rfl); (case hr => first | (go_simp; done) | (go_simp; rfl)); intro gb342 hg w7 hbox hb; have n0_ := Aside0.mk (below_step (by repeat (first | (with_reducible first | exact HB.out | apply below_alloc | apply pw_below_drewN | apply below_drew1) | exact HB.out)) hb); have n1_ := Aside0.mk (hbox); have n2_ := Aside0.mk ((by rw [hg]; exact (below_size (by repeat (first | (with_reducible first | exact HB.out | apply below_alloc | apply pw_below_drewN | apply below_drew1) | exact HB.out))) : w.heap.size ≤ gb342)); have n3_ := Aside0.mk ((by rw [hg]; exact (below_size (by repeat (first | (with_reducible first | exact HB.out | apply below_alloc | apply pw_below_drewN | apply below_drew1) | exact HB.out))) : w.heap.size ≤ gb342)); clear HB; have HB := n0_; have BK342 := n1_; have GW342 := n2_; have GE342 := n3_; clear n0_ n1_ n2_ n3_; clear hb hbox hg; have hcz8_0 : w7.cell? ⟨gb342, 0, none⟩ = some (.int .i64 a0_0) := (blk_cell BK342.out 0).trans rfl; have hcz8_1 : w7.cell? ⟨gb342, 1, none⟩ = some (.int .i64 a0_1) := (blk_cell BK342.out 1).trans rfl; have hcz8_2 : w7.cell? ⟨gb342, 2, none⟩ = some (.bool true) := (blk_cell BK342.out 2).trans rfl; have hcz8_3 : w7.cell? ⟨gb342, 3, none⟩ = some (.slice A0_3 l0_3.length c0_3) := (blk_cell BK342.out 3).trans rfl; have hfz8_0 := blk_frozen BK342.out 0; have hfz8_1 := blk_frozen BK342.out 1; have hfz8_2 := blk_frozen BK342.out 2; have hfz8_3 := blk_frozen BK342.out 3) | ((with_reducible refine gate_callee (f := 44) rfl ?_); refine goesL_ (some 40) rfl rfl Try.func44 (by kernel_rfl) rfl #[.agg #[.int .i64 a0_0, .int .i64 a0_1, .bool true, .slice A0_3 l0_3.length c0_3]] rfl (by (try simp only [List.map_toArray, List.map_cons, List.map_nil]); first | done | rfl | (simp only [List.length_drop, List.length_take]; rfl)) ?_; (with_reducible refine (assessorref51_knots.calls a0_0 a0_1 true _ _ l0_3 t345 _ ?side1 ?side2 A6.out).mono ?_); (case side1 => repeat (first | exact (Kd.C_below HR0_3.out HB.out) | (with_reducible refine Kd.C_alloc ?_ _) | (with_reducible refine Kd.C_drewN ?_ _) | (with_reducible refine Kd.C_drew ?_))); (case side2 => exact HC0_3.out); rintro e w9 ⟨v346, rfl, ho0, hb⟩; refine ⟨_, rfl, ?_⟩; have n0_ := Aside0.mk (Kd.R_lower ho0 (below_size (by repeat (first | (with_reducible first | exact HB.out | apply below_alloc | apply pw_below_drewN | apply below_drew1 | refine below_set ?_ GE342.out) | exact HB.out)))); have n1_ := Aside0.mk (blk_below (g := gb342) (o := .cells #[.int .i64 a0_0, .int .i64 a0_1, .bool true, .slice A0_3 l0_3.length c0_3] 24 (0, 0)) (by (with_reducible repeat (first | refine blk_drewN ?_ _ | refine blk_drew ?_ | refine blk_alloc ?_ _)); exact BK342.out) hb); have n2_ := Aside0.mk (below_step (by repeat (first | (with_reducible first | exact HB.out | apply below_alloc | apply pw_below_drewN | apply below_drew1 | refine below_set ?_ GE342.out) | exact HB.out)) hb); clear BK342; clear HB; have HO347 := n0_; have BK342 := n1_; have HB := n2_; clear n0_ n1_ n2_; (try clear hb); (try clear hb2); (try clear hk); (try clear hi); (try clear ho0)))
   go_loopg [8] k (fun kq v8 w' => ∃ (x8_1 : Int), v8 = .int .i64 x8_1 ∧ Aside0 (assessorref51_parts.l1 kq a1 t345 x8_1 = some r) ∧ Aside0 (kq ≤ k) ∧ Aside0 (Kd.R k34 34 w' w.heap.size (fun _ => True) v346 t345) ∧ Aside0 (w'.heap[gb342]? = some (.cells #[.int .i64 a0_0, .int .i64 a0_1, .bool true, (.slice A0_3 l0_3.length c0_3)] 24 (0, 0))) ∧ Aside0 (Below w.heap.size w w'))
   case atStart => exact ⟨(1), (by first | rfl | (simp; done) | (simp [*]; done)), H', ⟨Nat.le_refl _⟩, ⟨by (with_reducible repeat (first | apply Kd.R_alloc | apply Kd.R_drewN | apply Kd.R_drew)); exact HO347.out⟩, ⟨by (with_reducible repeat (first | refine blk_drewN ?_ _ | refine blk_drew ?_ | refine blk_alloc ?_ _)); exact BK342.out⟩, ⟨by repeat (first | (with_reducible first | exact HB.out | apply below_alloc | apply pw_below_drewN | apply below_drew1 | refine below_set ?_ GE342.out) | exact HB.out)⟩⟩
   case round =>
    clear H'
    try clear p2
    try clear c3
    try clear c3b0
    try clear c3b1
    try clear c4
    try clear c5
    try clear hcz8_0
    try clear hcz8_1
    try clear hcz8_2
    try clear hcz8_3
    try clear hfz8_0
    try clear hfz8_1
    try clear hfz8_2
    try clear hfz8_3
    obtain ⟨x8_1, rfl, HA, HK1, HO_7, BK342, HB⟩ := hrel
    cases gk with
    | zero => exact absurd HA.out (by simp [assessorref51_parts.l1])
    | succ k1 =>
     have H := HA.out
     clear HA
     simp only [assessorref51_parts.l1] at H
     by_cases c10 : x8_1 < (t345.length : Int)
     ·rw [if_pos c10] at H
      have c10b0 : decide (x8_1 < (t345.length : Int)) = true := decide_eq_true c10
      clear c10
      obtain ⟨ji11, hji11⟩ : ∃ j_ : Int, (wrap64 (x8_1 - 1)) = j_ := ⟨_, rfl⟩
      replace H : (if 0 ≤ (ji11) then (if (ji11) < (t345.length : Int) then (if 0 ≤ x8_1 then (if ((rd_T34 t345 (ji11)).f0) < a1 then (if a1 ≤ ((rd_T34 t345 x8_1).f0) then (if (wrap64 (((rd_T34 t345 x8_1).f0) - ((rd_T34 t345 (ji11)).f0))) = 0 then (none) else (some (wrap64 (Int.tdiv (wrap64 (100 * (wrap64 ((wrap64 (((rd_T34 t345 (ji11)).f1) * (wrap64 (((rd_T34 t345 x8_1).f0) - a1)))) + (wrap64 (((rd_T34 t345 x8_1).f1) * (wrap64 (a1 - ((rd_T34 t345 (ji11)).f0))))))))) (wrap64 (((rd_T34 t345 x8_1).f0) - ((rd_T34 t345 (ji11)).f0))))))) else (assessorref51_parts.l1 k1 a1 t345 (wrap64 (x8_1 + 1)))) else (assessorref51_parts.l1 k1 a1 t345 (wrap64 (x8_1 + 1)))) else (none)) else (none)) else (none)) = some r := by first | (rw [hji11] at H; exact H) | (simp only [hji11] at H ⊢; exact H)
      have hji11w : (IntKind.i64.wrap (x8_1 - 1)) = ji11 := (i64_w _).trans hji11
      by_cases c12 : 0 ≤ (ji11)
      ·rw [if_pos c12] at H
       have c12b0 : decide (0 ≤ (ji11)) = true := decide_eq_true c12
       clear c12
       by_cases c13 : (ji11) < (t345.length : Int)
       ·rw [if_pos c13] at H
        have c13b0 : decide ((ji11) < (t345.length : Int)) = true := decide_eq_true c13
        clear c13
        by_cases c14 : 0 ≤ x8_1
        ·rw [if_pos c14] at H
         have c14b0 : decide (0 ≤ x8_1) = true := decide_eq_true c14
         clear c14
         by_cases c15 : ((rd_T34 t345 (ji11)).f0) < a1
         ·rw [if_pos c15] at H
          have c15b0 : decide (((rd_T34 t345 (ji11)).f0) < a1) = true := decide_eq_true c15
          clear c15
          by_cases c16 : a1 ≤ ((rd_T34 t345 x8_1).f0)
          ·rw [if_pos c16] at H
           have c16b0 : decide (a1 ≤ ((rd_T34 t345 x8_1).f0)) = true := decide_eq_true c16
           clear c16
           by_cases c17 : (wrap64 (((rd_T34 t345 x8_1).f0) - ((rd_T34 t345 (ji11)).f0))) = 0
           ·rw [if_pos c17] at H
            exact absurd H (by simp)
           ·rw [if_neg c17] at H
            have c17b0 : ((wrap64 (((rd_T34 t345 x8_1).f0) - ((rd_T34 t345 (ji11)).f0))) == 0) = false := beq_eq_false_iff_ne.mpr c17
            have c17b1 : ((wrap64 (((rd_T34 t345 x8_1).f0) - ((rd_T34 t345 (ji11)).f0))) != 0) = true := bne_iff_ne.mpr c17
            obtain rfl := Option.some.inj H
            obtain ⟨Ao18, co18, eo18⟩ := Kd.R_slice HO_7.out
            subst eo18
            try go_wp2
            have n0_ := Aside0.mk (Kd.R_drew HO_7.out)
            have n1_ := Aside0.mk (blk_drew BK342.out)
            have n2_ := Aside0.mk (below_drew1 HB.out)
            clear HO_7
            clear BK342
            clear HB
            have HO_7 := n0_
            have BK342 := n1_
            have HB := n2_
            clear n0_ n1_ n2_
            have p349 : 0 ≤ ((ji11) : Int) := of_decide_eq_true (by first | (with_reducible assumption) | assumption)
            have q349 : (ji11) < (t345.length : Int) := of_decide_eq_true (by first | (with_reducible assumption) | assumption)
            obtain ⟨ad349, e349, hx349_0, hx349_1⟩ := at_T34 (Kd.R_reads' HO_7.out).2.2 (ji11) p349 q349
            cases e349
            replace p349 := eq_true p349
            replace q349 := eq_true q349
            have p350 : 0 ≤ (x8_1 : Int) := of_decide_eq_true (by first | (with_reducible assumption) | assumption)
            have q350 : x8_1 < (t345.length : Int) := of_decide_eq_true (by first | (with_reducible assumption) | assumption)
            obtain ⟨ad350, e350, hx350_0, hx350_1⟩ := at_T34 (Kd.R_reads' HO_7.out).2.2 x8_1 p350 q350
            obtain rfl : ad349 = ad350 := (by injection e350)
            replace p350 := eq_true p350
            replace q350 := eq_true q350
            refine start_ (n := 13) (S := fun w' => w'.cell? (ad349.add (((ji11)).toNat * 2)) = some (.int .i64 ((rd_T34 t345 (ji11)).f0)) ∧ w'.cell? ⟨(ad349.add (((ji11)).toNat * 2)).block, (ad349.add (((ji11)).toNat * 2)).off + 1, none⟩ = some (.int .i64 ((rd_T34 t345 (ji11)).f1)) ∧ w'.cell? (ad349.add ((x8_1).toNat * 2)) = some (.int .i64 ((rd_T34 t345 x8_1).f0)) ∧ w'.cell? ⟨(ad349.add ((x8_1).toNat * 2)).block, (ad349.add ((x8_1).toNat * 2)).off + 1, none⟩ = some (.int .i64 ((rd_T34 t345 x8_1).f1))) (ds := []) #[false, false, false, false, false, false, false, false, false, false, false, false, false] (by kernel_rfl) rfl rfl ⟨hx349_0, hx349_1, hx350_0, hx350_1⟩ (fun hHeld => ?_); refine with_tabW assessorref51_parts.tab15 assessorref51_parts.bits15 (fun HT_ HW_ => ?_)
            generalize wr.drew = w19 at HO_7 BK342 HB hx349_0 hx349_1 hx350_0 hx350_1 hHeld ⊢
            refine pure_ (i := 0) (N := some 47) (v := ?_) (a' := ?_) #[true, false, false, false, false, false, false, false, false, false, false, false, false] rfl rfl (any_of HT_.out (by kernel_rfl)) (fun _ _ _ h => h) (Or.inl ⟨by rfl, ?_⟩) ?_ ?_
            rotate_left
            ·intro w'
             go_simp
             with_reducible rfl
            rotate_left
            ·simp only [Act.put, sA, sZ, sS, i64_w]
             rfl
            refine pure_ (i := 1) (N := some 48) (v := ?_) (a' := ?_) #[true, true, false, false, false, false, false, false, false, false, false, false, false] rfl rfl (any_of HT_.out (by kernel_rfl)) (fun _ _ _ h => h) (Or.inl ⟨by rfl, ?_⟩) ?_ ?_
            rotate_left
            ·intro w'
             go_simp
             with_reducible rfl
            rotate_left
            ·simp only [Act.put, sA, sZ, sS, i64_w]
             rfl
            refine pure_ (i := 2) (N := some 49) (v := ?_) (a' := ?_) #[true, true, true, false, false, false, false, false, false, false, false, false, false] rfl rfl (any_of HT_.out (by kernel_rfl)) (fun _ _ _ h => h) (Or.inl ⟨by rfl, ?_⟩) ?_ ?_
            rotate_left
            ·intro w'
             go_simp
             with_reducible rfl
            rotate_left
            ·simp only [Act.put, sA, sZ, sS, i64_w]
             rfl
            refine pure_ (i := 3) (N := some 50) (v := ?_) (a' := ?_) #[true, true, true, true, false, false, false, false, false, false, false, false, false] rfl rfl (any_of HT_.out (by kernel_rfl)) (fun _ _ _ h => h) (Or.inl ⟨by rfl, ?_⟩) ?_ ?_
            rotate_left
            ·intro w'
             go_simp
             with_reducible rfl
            rotate_left
            ·simp only [Act.put, sA, sZ, sS, i64_w]
             rfl
            refine pure_ (i := 5) (N := some 52) (v := ?_) (a' := ?_) #[true, true, true, true, false, true, false, false, false, false, false, false, false] rfl rfl (any_of HT_.out (by kernel_rfl)) (fun _ _ _ h => h) (Or.inl ⟨by rfl, ?_⟩) ?_ ?_
            rotate_left
            ·intro w'
             go_simp
             with_reducible rfl
            rotate_left
            ·simp only [Act.put, sA, sZ, sS, i64_w]
             rfl
            refine pure_ (i := 6) (N := some 53) (v := ?_) (a' := ?_) #[true, true, true, true, false, true, true, false, false, false, false, false, false] rfl rfl (any_of HT_.out (by kernel_rfl)) (fun _ _ _ h => h) (Or.inl ⟨by rfl, ?_⟩) ?_ ?_
            rotate_left
            ·intro w'
             go_simp
             with_reducible rfl
            rotate_left
            ·simp only [Act.put, sA, sZ, sS, i64_w]
             rfl
            refine pure_ (i := 7) (N := some 54) (v := ?_) (a' := ?_) #[true, true, true, true, false, true, true, true, false, false, false, false, false] rfl rfl (any_of HT_.out (by kernel_rfl)) (fun _ _ _ h => h) (Or.inl ⟨by rfl, ?_⟩) ?_ ?_
            rotate_left
            ·intro w'
             go_simp
             with_reducible rfl
            rotate_left
            ·simp only [Act.put, sA, sZ, sS, i64_w]
             rfl
            refine take_ (i := 4) (N := some 51) (v := ?_) (a' := ?_) #[true, true, true, true, true, true, true, true, false, false, false, false, false] rfl rfl (take_ofW HT_.out HW_.out (by kernel_rfl)) (fun _ _ _ h => h) (Or.inl ⟨by rfl, ?_⟩) hHeld ?_ ?_
            rotate_left
            ·rintro w' ⟨s0, s1, s2, s3⟩
             go_simp
             with_reducible rfl
            rotate_left
            ·simp only [Act.put, sA, sZ, sS, i64_w]
             rfl
            refine take_ (i := 8) (N := some 55) (v := ?_) (a' := ?_) #[true, true, true, true, true, true, true, true, true, false, false, false, false] rfl rfl (take_ofW HT_.out HW_.out (by kernel_rfl)) (fun _ _ _ h => h) (Or.inl ⟨by rfl, ?_⟩) hHeld ?_ ?_
            rotate_left
            ·rintro w' ⟨s0, s1, s2, s3⟩
             go_simp
             with_reducible rfl
            rotate_left
            ·simp only [Act.put, sA, sZ, sS, i64_w]
             rfl
            refine join_ (σ := Nat × Nat) 2 #[true, true, true, true, true, true, true, true, true, true, true, false, false] (fun s_ => [(9, .pointer (some ⟨s_.1, 0, none⟩)), (10, .pointer (some ⟨s_.2, 0, none⟩))]) (fun s_ w' => (w'.cell? (ad349.add (((ji11)).toNat * 2)) = some (.int .i64 ((rd_T34 t345 (ji11)).f0)) ∧ w'.cell? ⟨(ad349.add (((ji11)).toNat * 2)).block, (ad349.add (((ji11)).toNat * 2)).off + 1, none⟩ = some (.int .i64 ((rd_T34 t345 (ji11)).f1)) ∧ w'.cell? (ad349.add ((x8_1).toNat * 2)) = some (.int .i64 ((rd_T34 t345 x8_1).f0)) ∧ w'.cell? ⟨(ad349.add ((x8_1).toNat * 2)).block, (ad349.add ((x8_1).toNat * 2)).off + 1, none⟩ = some (.int .i64 ((rd_T34 t345 x8_1).f1))) ∧ (Kd.R k34 34 w' w.heap.size (fun k_ => k_ ≠ s_.1 ∧ k_ ≠ s_.2) (.slice (some ad349) t345.length co18) t345) ∧ (w'.heap[gb342]? = some (.cells #[.int .i64 a0_0, .int .i64 a0_1, .bool true, .slice A0_3 l0_3.length c0_3] 24 (0, 0))) ∧ (w'.heap[s_.1]? = some (.cells #[.int .i64 0, .int .i64 0] 34 (0, 0))) ∧ (w'.heap[s_.2]? = some (.cells #[.int .i64 0, .int .i64 0] 34 (0, 0))) ∧ (w.heap.size ≤ s_.1) ∧ (w.heap.size ≤ s_.1) ∧ (gb342 ≠ s_.1) ∧ (s_.1 ≠ gb342) ∧ (s_.2 ≠ s_.1) ∧ (s_.1 ≠ s_.2) ∧ (w.heap.size ≤ s_.2) ∧ (w.heap.size ≤ s_.2) ∧ (gb342 ≠ s_.2) ∧ (s_.2 ≠ gb342) ∧ (Below w.heap.size w w')) ?_ ?_
            rotate_left
            ·intro hCont
             refine two_ (i := 9) (j := 10) (Ni := some 9) (Nj := some 10) #[true, true, true, true, true, true, true, true, true, true, false, false, false] #[true, true, true, true, true, true, true, true, true, false, true, false, false] rfl rfl rfl rfl (two_of HT_.out (by kernel_rfl)) (by decide) (by decide) (fun K hK => ?_) (fun K hK => ?_)
             ·skip
              refine box_step ?hg (N := 9) ?hd (cs := #[.int .i64 0, .int .i64 0]) (t := 34) ?hr ?_; (case hd => rfl); (case hg => rfl); (case hr => first | (go_simp; done) | (go_simp; rfl))
              intro gb351 hg w20 hbox hb
              have HS0_ := (hb.cell (World.block_lt_of_cell? _ _ (hHeld.1))).trans (hHeld.1)
              have HS1_ := (hb.cell (World.block_lt_of_cell? _ _ (hHeld.2.1))).trans (hHeld.2.1)
              have HS2_ := (hb.cell (World.block_lt_of_cell? _ _ (hHeld.2.2.1))).trans (hHeld.2.2.1)
              have HS3_ := (hb.cell (World.block_lt_of_cell? _ _ (hHeld.2.2.2))).trans (hHeld.2.2.2)
              have n0_ := Aside0.mk (Kd.R_below (Kd.R_elderB (by (with_reducible repeat (first | apply Kd.R_alloc | apply Kd.R_drewN | apply Kd.R_drew)); exact HO_7.out) gb351 (Nat.le_of_eq hg.symm)) hb)
              have n1_ := Aside0.mk (blk_below (g := gb342) (o := .cells #[.int .i64 a0_0, .int .i64 a0_1, .bool true, .slice A0_3 l0_3.length c0_3] 24 (0, 0)) (by (with_reducible repeat (first | refine blk_drewN ?_ _ | refine blk_drew ?_ | refine blk_alloc ?_ _)); exact BK342.out) hb)
              have n2_ := Aside0.mk (below_step (by repeat (first | (with_reducible first | exact HB.out | apply below_alloc | apply pw_below_drewN | apply below_drew1 | refine below_set ?_ GE342.out) | exact HB.out)) hb)
              have n3_ := Aside0.mk (hbox)
              have n4_ := Aside0.mk ((by rw [hg]; exact (below_size (by repeat (first | (with_reducible first | exact HB.out | apply below_alloc | apply pw_below_drewN | apply below_drew1 | refine below_set ?_ GE342.out) | exact HB.out))) : w.heap.size ≤ gb351))
              have n5_ := Aside0.mk ((by rw [hg]; exact (below_size (by repeat (first | (with_reducible first | exact HB.out | apply below_alloc | apply pw_below_drewN | apply below_drew1 | refine below_set ?_ GE342.out) | exact HB.out))) : w.heap.size ≤ gb351))
              have n6_ := Aside0.mk ((by rw [hg]; exact Nat.ne_of_lt (blk_lt (g := gb342) (o := .cells #[.int .i64 a0_0, .int .i64 a0_1, .bool true, .slice A0_3 l0_3.length c0_3] 24 (0, 0)) (by (with_reducible repeat (first | refine blk_drewN ?_ _ | refine blk_drew ?_ | refine blk_alloc ?_ _)); exact BK342.out)) : gb342 ≠ gb351))
              have n7_ := Aside0.mk ((by rw [hg]; exact Nat.ne_of_gt (blk_lt (g := gb342) (o := .cells #[.int .i64 a0_0, .int .i64 a0_1, .bool true, .slice A0_3 l0_3.length c0_3] 24 (0, 0)) (by (with_reducible repeat (first | refine blk_drewN ?_ _ | refine blk_drew ?_ | refine blk_alloc ?_ _)); exact BK342.out)) : gb351 ≠ gb342))
              clear HO_7
              clear BK342
              clear HB
              have HO_7 := n0_
              have BK342 := n1_
              have HB := n2_
              have BK351 := n3_
              have GW351 := n4_
              have GE351 := n5_
              have NB342_351 := n6_
              have NB351_342 := n7_
              clear n0_ n1_ n2_ n3_ n4_ n5_ n6_ n7_
              clear hb hbox hg
              refine hK.out _ _ ⟨HS0_, HS1_, HS2_, HS3_⟩ (fun hHeld => ?_)
              clear hK K
              refine norm_ (a' := ?_) ?_ ?_
              rotate_left
              ·show Act.put _ (some 9) _ = _
               simp only [Act.put, sA, sZ, sS, i64_w]
               rfl
              refine one_ (i := 10) (N := some 10) #[true, true, true, true, true, true, true, true, true, true, true, false, false] rfl rfl (one_of HT_.out (by kernel_rfl)) (by decide) (fun K hK => ?_)
              refine box_step ?hg (N := 10) ?hd (cs := #[.int .i64 0, .int .i64 0]) (t := 34) ?hr ?_; (case hd => rfl); (case hg => rfl); (case hr => first | (go_simp; done) | (go_simp; rfl))
              intro gb352 hg w21 hbox hb
              have HS0_ := (hb.cell (World.block_lt_of_cell? _ _ (hHeld.1))).trans (hHeld.1)
              have HS1_ := (hb.cell (World.block_lt_of_cell? _ _ (hHeld.2.1))).trans (hHeld.2.1)
              have HS2_ := (hb.cell (World.block_lt_of_cell? _ _ (hHeld.2.2.1))).trans (hHeld.2.2.1)
              have HS3_ := (hb.cell (World.block_lt_of_cell? _ _ (hHeld.2.2.2))).trans (hHeld.2.2.2)
              have n0_ := Aside0.mk (Kd.R_below (Kd.R_elderB (by (with_reducible repeat (first | apply Kd.R_alloc | apply Kd.R_drewN | apply Kd.R_drew)); exact HO_7.out) gb352 (Nat.le_of_eq hg.symm)) hb)
              have n1_ := Aside0.mk (blk_below (g := gb342) (o := .cells #[.int .i64 a0_0, .int .i64 a0_1, .bool true, .slice A0_3 l0_3.length c0_3] 24 (0, 0)) (by (with_reducible repeat (first | refine blk_drewN ?_ _ | refine blk_drew ?_ | refine blk_alloc ?_ _)); exact BK342.out) hb)
              have n2_ := Aside0.mk (blk_below (g := gb351) (o := .cells #[.int .i64 0, .int .i64 0] 34 (0, 0)) (by (with_reducible repeat (first | refine blk_drewN ?_ _ | refine blk_drew ?_ | refine blk_alloc ?_ _)); exact BK351.out) hb)
              have n3_ := Aside0.mk (below_step (by repeat (first | (with_reducible first | exact HB.out | apply below_alloc | apply pw_below_drewN | apply below_drew1 | refine below_set ?_ GE342.out | refine below_set ?_ GE351.out) | exact HB.out)) hb)
              have n4_ := Aside0.mk (hbox)
              have n5_ := Aside0.mk ((by rw [hg]; exact (below_size (by repeat (first | (with_reducible first | exact HB.out | apply below_alloc | apply pw_below_drewN | apply below_drew1 | refine below_set ?_ GE342.out | refine below_set ?_ GE351.out) | exact HB.out))) : w.heap.size ≤ gb352))
              have n6_ := Aside0.mk ((by rw [hg]; exact (below_size (by repeat (first | (with_reducible first | exact HB.out | apply below_alloc | apply pw_below_drewN | apply below_drew1 | refine below_set ?_ GE342.out | refine below_set ?_ GE351.out) | exact HB.out))) : w.heap.size ≤ gb352))
              have n7_ := Aside0.mk ((by rw [hg]; exact Nat.ne_of_lt (blk_lt (g := gb342) (o := .cells #[.int .i64 a0_0, .int .i64 a0_1, .bool true, .slice A0_3 l0_3.length c0_3] 24 (0, 0)) (by (with_reducible repeat (first | refine blk_drewN ?_ _ | refine blk_drew ?_ | refine blk_alloc ?_ _)); exact BK342.out)) : gb342 ≠ gb352))
              have n8_ := Aside0.mk ((by rw [hg]; exact Nat.ne_of_gt (blk_lt (g := gb342) (o := .cells #[.int .i64 a0_0, .int .i64 a0_1, .bool true, .slice A0_3 l0_3.length c0_3] 24 (0, 0)) (by (with_reducible repeat (first | refine blk_drewN ?_ _ | refine blk_drew ?_ | refine blk_alloc ?_ _)); exact BK342.out)) : gb352 ≠ gb342))
              have n9_ := Aside0.mk ((by rw [hg]; exact Nat.ne_of_lt (blk_lt (g := gb351) (o := .cells #[.int .i64 0, .int .i64 0] 34 (0, 0)) (by (with_reducible repeat (first | refine blk_drewN ?_ _ | refine blk_drew ?_ | refine blk_alloc ?_ _)); exact BK351.out)) : gb351 ≠ gb352))
              have n10_ := Aside0.mk ((by rw [hg]; exact Nat.ne_of_gt (blk_lt (g := gb351) (o := .cells #[.int .i64 0, .int .i64 0] 34 (0, 0)) (by (with_reducible repeat (first | refine blk_drewN ?_ _ | refine blk_drew ?_ | refine blk_alloc ?_ _)); exact BK351.out)) : gb352 ≠ gb351))
              clear HO_7
              clear BK342
              clear BK351
              clear HB
              have HO_7 := n0_
              have BK342 := n1_
              have BK351 := n2_
              have HB := n3_
              have BK352 := n4_
              have GW352 := n5_
              have GE352 := n6_
              have NB342_352 := n7_
              have NB352_342 := n8_
              have NB351_352 := n9_
              have NB352_351 := n10_
              clear n0_ n1_ n2_ n3_ n4_ n5_ n6_ n7_ n8_ n9_ n10_
              clear hb hbox hg
              refine hK.out _ _ ⟨HS0_, HS1_, HS2_, HS3_⟩ (fun hHeld => ?_)
              clear hK K
              refine norm_ (a' := ?_) ?_ ?_
              rotate_left
              ·show Act.put _ (some 10) _ = _
               simp only [Act.put, sA, sZ, sS, i64_w]
               rfl
              exact norm_ (by simp only [putAll, Act.put, List.setIfInBounds_toArray, List.set_cons_zero, List.set_cons_succ]) (hCont (gb351, gb352) _ ⟨hHeld, (by (with_reducible repeat (first | apply Kd.R_alloc | apply Kd.R_drewN | apply Kd.R_drew)); exact Kd.R_mono HO_7.out (fun _ hk => ⟨hk.1.2, hk.2⟩)), (by (with_reducible repeat (first | refine blk_drewN ?_ _ | refine blk_drew ?_ | refine blk_alloc ?_ _)); exact BK342.out), (by (with_reducible repeat (first | refine blk_drewN ?_ _ | refine blk_drew ?_ | refine blk_alloc ?_ _)); exact BK351.out), (by (with_reducible repeat (first | refine blk_drewN ?_ _ | refine blk_drew ?_ | refine blk_alloc ?_ _)); exact BK352.out), GW351.out, GE351.out, NB342_351.out, NB351_342.out, NB352_351.out, NB351_352.out, GW352.out, GE352.out, NB342_352.out, NB352_342.out, (by repeat (first | (with_reducible first | exact HB.out | apply below_alloc | apply pw_below_drewN | apply below_drew1 | refine below_set ?_ GE342.out | refine below_set ?_ GE351.out | refine below_set ?_ GE352.out) | exact HB.out))⟩)
             ·skip
              refine box_step ?hg (N := 10) ?hd (cs := #[.int .i64 0, .int .i64 0]) (t := 34) ?hr ?_; (case hd => rfl); (case hg => rfl); (case hr => first | (go_simp; done) | (go_simp; rfl))
              intro gb352 hg w20 hbox hb
              have HS0_ := (hb.cell (World.block_lt_of_cell? _ _ (hHeld.1))).trans (hHeld.1)
              have HS1_ := (hb.cell (World.block_lt_of_cell? _ _ (hHeld.2.1))).trans (hHeld.2.1)
              have HS2_ := (hb.cell (World.block_lt_of_cell? _ _ (hHeld.2.2.1))).trans (hHeld.2.2.1)
              have HS3_ := (hb.cell (World.block_lt_of_cell? _ _ (hHeld.2.2.2))).trans (hHeld.2.2.2)
              have n0_ := Aside0.mk (Kd.R_below (Kd.R_elderB (by (with_reducible repeat (first | apply Kd.R_alloc | apply Kd.R_drewN | apply Kd.R_drew)); exact HO_7.out) gb352 (Nat.le_of_eq hg.symm)) hb)
              have n1_ := Aside0.mk (blk_below (g := gb342) (o := .cells #[.int .i64 a0_0, .int .i64 a0_1, .bool true, .slice A0_3 l0_3.length c0_3] 24 (0, 0)) (by (with_reducible repeat (first | refine blk_drewN ?_ _ | refine blk_drew ?_ | refine blk_alloc ?_ _)); exact BK342.out) hb)
              have n2_ := Aside0.mk (below_step (by repeat (first | (with_reducible first | exact HB.out | apply below_alloc | apply pw_below_drewN | apply below_drew1 | refine below_set ?_ GE342.out) | exact HB.out)) hb)
              have n3_ := Aside0.mk (hbox)
              have n4_ := Aside0.mk ((by rw [hg]; exact (below_size (by repeat (first | (with_reducible first | exact HB.out | apply below_alloc | apply pw_below_drewN | apply below_drew1 | refine below_set ?_ GE342.out) | exact HB.out))) : w.heap.size ≤ gb352))
              have n5_ := Aside0.mk ((by rw [hg]; exact (below_size (by repeat (first | (with_reducible first | exact HB.out | apply below_alloc | apply pw_below_drewN | apply below_drew1 | refine below_set ?_ GE342.out) | exact HB.out))) : w.heap.size ≤ gb352))
              have n6_ := Aside0.mk ((by rw [hg]; exact Nat.ne_of_lt (blk_lt (g := gb342) (o := .cells #[.int .i64 a0_0, .int .i64 a0_1, .bool true, .slice A0_3 l0_3.length c0_3] 24 (0, 0)) (by (with_reducible repeat (first | refine blk_drewN ?_ _ | refine blk_drew ?_ | refine blk_alloc ?_ _)); exact BK342.out)) : gb342 ≠ gb352))
              have n7_ := Aside0.mk ((by rw [hg]; exact Nat.ne_of_gt (blk_lt (g := gb342) (o := .cells #[.int .i64 a0_0, .int .i64 a0_1, .bool true, .slice A0_3 l0_3.length c0_3] 24 (0, 0)) (by (with_reducible repeat (first | refine blk_drewN ?_ _ | refine blk_drew ?_ | refine blk_alloc ?_ _)); exact BK342.out)) : gb352 ≠ gb342))
              clear HO_7
              clear BK342
              clear HB
              have HO_7 := n0_
              have BK342 := n1_
              have HB := n2_
              have BK352 := n3_
              have GW352 := n4_
              have GE352 := n5_
              have NB342_352 := n6_
              have NB352_342 := n7_
              clear n0_ n1_ n2_ n3_ n4_ n5_ n6_ n7_
              clear hb hbox hg
              refine hK.out _ _ ⟨HS0_, HS1_, HS2_, HS3_⟩ (fun hHeld => ?_)
              clear hK K
              refine norm_ (a' := ?_) ?_ ?_
              rotate_left
              ·show Act.put _ (some 10) _ = _
               simp only [Act.put, sA, sZ, sS, i64_w]
               rfl
              refine one_ (i := 9) (N := some 9) #[true, true, true, true, true, true, true, true, true, true, true, false, false] rfl rfl (one_of HT_.out (by kernel_rfl)) (by decide) (fun K hK => ?_)
              refine box_step ?hg (N := 9) ?hd (cs := #[.int .i64 0, .int .i64 0]) (t := 34) ?hr ?_; (case hd => rfl); (case hg => rfl); (case hr => first | (go_simp; done) | (go_simp; rfl))
              intro gb351 hg w21 hbox hb
              have HS0_ := (hb.cell (World.block_lt_of_cell? _ _ (hHeld.1))).trans (hHeld.1)
              have HS1_ := (hb.cell (World.block_lt_of_cell? _ _ (hHeld.2.1))).trans (hHeld.2.1)
              have HS2_ := (hb.cell (World.block_lt_of_cell? _ _ (hHeld.2.2.1))).trans (hHeld.2.2.1)
              have HS3_ := (hb.cell (World.block_lt_of_cell? _ _ (hHeld.2.2.2))).trans (hHeld.2.2.2)
              have n0_ := Aside0.mk (Kd.R_below (Kd.R_elderB (by (with_reducible repeat (first | apply Kd.R_alloc | apply Kd.R_drewN | apply Kd.R_drew)); exact HO_7.out) gb351 (Nat.le_of_eq hg.symm)) hb)
              have n1_ := Aside0.mk (blk_below (g := gb342) (o := .cells #[.int .i64 a0_0, .int .i64 a0_1, .bool true, .slice A0_3 l0_3.length c0_3] 24 (0, 0)) (by (with_reducible repeat (first | refine blk_drewN ?_ _ | refine blk_drew ?_ | refine blk_alloc ?_ _)); exact BK342.out) hb)
              have n2_ := Aside0.mk (blk_below (g := gb352) (o := .cells #[.int .i64 0, .int .i64 0] 34 (0, 0)) (by (with_reducible repeat (first | refine blk_drewN ?_ _ | refine blk_drew ?_ | refine blk_alloc ?_ _)); exact BK352.out) hb)
              have n3_ := Aside0.mk (below_step (by repeat (first | (with_reducible first | exact HB.out | apply below_alloc | apply pw_below_drewN | apply below_drew1 | refine below_set ?_ GE342.out | refine below_set ?_ GE352.out) | exact HB.out)) hb)
              have n4_ := Aside0.mk (hbox)
              have n5_ := Aside0.mk ((by rw [hg]; exact (below_size (by repeat (first | (with_reducible first | exact HB.out | apply below_alloc | apply pw_below_drewN | apply below_drew1 | refine below_set ?_ GE342.out | refine below_set ?_ GE352.out) | exact HB.out))) : w.heap.size ≤ gb351))
              have n6_ := Aside0.mk ((by rw [hg]; exact (below_size (by repeat (first | (with_reducible first | exact HB.out | apply below_alloc | apply pw_below_drewN | apply below_drew1 | refine below_set ?_ GE342.out | refine below_set ?_ GE352.out) | exact HB.out))) : w.heap.size ≤ gb351))
              have n7_ := Aside0.mk ((by rw [hg]; exact Nat.ne_of_lt (blk_lt (g := gb342) (o := .cells #[.int .i64 a0_0, .int .i64 a0_1, .bool true, .slice A0_3 l0_3.length c0_3] 24 (0, 0)) (by (with_reducible repeat (first | refine blk_drewN ?_ _ | refine blk_drew ?_ | refine blk_alloc ?_ _)); exact BK342.out)) : gb342 ≠ gb351))
              have n8_ := Aside0.mk ((by rw [hg]; exact Nat.ne_of_gt (blk_lt (g := gb342) (o := .cells #[.int .i64 a0_0, .int .i64 a0_1, .bool true, .slice A0_3 l0_3.length c0_3] 24 (0, 0)) (by (with_reducible repeat (first | refine blk_drewN ?_ _ | refine blk_drew ?_ | refine blk_alloc ?_ _)); exact BK342.out)) : gb351 ≠ gb342))
              have n9_ := Aside0.mk ((by rw [hg]; exact Nat.ne_of_lt (blk_lt (g := gb352) (o := .cells #[.int .i64 0, .int .i64 0] 34 (0, 0)) (by (with_reducible repeat (first | refine blk_drewN ?_ _ | refine blk_drew ?_ | refine blk_alloc ?_ _)); exact BK352.out)) : gb352 ≠ gb351))
              have n10_ := Aside0.mk ((by rw [hg]; exact Nat.ne_of_gt (blk_lt (g := gb352) (o := .cells #[.int .i64 0, .int .i64 0] 34 (0, 0)) (by (with_reducible repeat (first | refine blk_drewN ?_ _ | refine blk_drew ?_ | refine blk_alloc ?_ _)); exact BK352.out)) : gb351 ≠ gb352))
              clear HO_7
              clear BK342
              clear BK352
              clear HB
              have HO_7 := n0_
              have BK342 := n1_
              have BK352 := n2_
              have HB := n3_
              have BK351 := n4_
              have GW351 := n5_
              have GE351 := n6_
              have NB342_351 := n7_
              have NB351_342 := n8_
              have NB352_351 := n9_
              have NB351_352 := n10_
              clear n0_ n1_ n2_ n3_ n4_ n5_ n6_ n7_ n8_ n9_ n10_
              clear hb hbox hg
              refine hK.out _ _ ⟨HS0_, HS1_, HS2_, HS3_⟩ (fun hHeld => ?_)
              clear hK K
              refine norm_ (a' := ?_) ?_ ?_
              rotate_left
              ·show Act.put _ (some 9) _ = _
               simp only [Act.put, sA, sZ, sS, i64_w]
               rfl
              exact norm_ (by simp only [putAll, Act.put, List.setIfInBounds_toArray, List.set_cons_zero, List.set_cons_succ]) (hCont (gb351, gb352) _ ⟨hHeld, (by (with_reducible repeat (first | apply Kd.R_alloc | apply Kd.R_drewN | apply Kd.R_drew)); exact Kd.R_mono HO_7.out (fun _ hk => ⟨hk.2, hk.1.2⟩)), (by (with_reducible repeat (first | refine blk_drewN ?_ _ | refine blk_drew ?_ | refine blk_alloc ?_ _)); exact BK342.out), (by (with_reducible repeat (first | refine blk_drewN ?_ _ | refine blk_drew ?_ | refine blk_alloc ?_ _)); exact BK351.out), (by (with_reducible repeat (first | refine blk_drewN ?_ _ | refine blk_drew ?_ | refine blk_alloc ?_ _)); exact BK352.out), GW351.out, GE351.out, NB342_351.out, NB351_342.out, NB352_351.out, NB351_352.out, GW352.out, GE352.out, NB342_352.out, NB352_342.out, (by repeat (first | (with_reducible first | exact HB.out | apply below_alloc | apply pw_below_drewN | apply below_drew1 | refine below_set ?_ GE342.out | refine below_set ?_ GE352.out | refine below_set ?_ GE351.out) | exact HB.out))⟩)
            rintro ⟨gb351, gb352⟩ w22 ⟨hS_, h0_, h1_, h2_, h3_, h4_, h5_, h6_, h7_, h8_, h9_, h10_, h11_, h12_, h13_, h14_⟩
            have n0_ : Aside0 (Kd.R k34 34 w22 w.heap.size (fun k_ => k_ ≠ gb351 ∧ k_ ≠ gb352) (.slice (some ad349) t345.length co18) t345) := ⟨h0_⟩
            have n1_ : Aside0 (w22.heap[gb342]? = some (.cells #[.int .i64 a0_0, .int .i64 a0_1, .bool true, .slice A0_3 l0_3.length c0_3] 24 (0, 0))) := ⟨h1_⟩
            have n2_ : Aside0 (w22.heap[gb351]? = some (.cells #[.int .i64 0, .int .i64 0] 34 (0, 0))) := ⟨h2_⟩
            have n3_ : Aside0 (w22.heap[gb352]? = some (.cells #[.int .i64 0, .int .i64 0] 34 (0, 0))) := ⟨h3_⟩
            have n4_ : Aside0 (w.heap.size ≤ gb351) := ⟨h4_⟩
            have n5_ : Aside0 (w.heap.size ≤ gb351) := ⟨h5_⟩
            have n6_ : Aside0 (gb342 ≠ gb351) := ⟨h6_⟩
            have n7_ : Aside0 (gb351 ≠ gb342) := ⟨h7_⟩
            have n8_ : Aside0 (gb352 ≠ gb351) := ⟨h8_⟩
            have n9_ : Aside0 (gb351 ≠ gb352) := ⟨h9_⟩
            have n10_ : Aside0 (w.heap.size ≤ gb352) := ⟨h10_⟩
            have n11_ : Aside0 (w.heap.size ≤ gb352) := ⟨h11_⟩
            have n12_ : Aside0 (gb342 ≠ gb352) := ⟨h12_⟩
            have n13_ : Aside0 (gb352 ≠ gb342) := ⟨h13_⟩
            have n14_ : Aside0 (Below w.heap.size w w22) := ⟨h14_⟩
            clear HO_7
            clear BK342
            clear HB
            clear h0_ h1_ h2_ h3_ h4_ h5_ h6_ h7_ h8_ h9_ h10_ h11_ h12_ h13_ h14_
            have HO_7 := n0_
            have BK342 := n1_
            have BK351 := n2_
            have BK352 := n3_
            have GW351 := n4_
            have GE351 := n5_
            have NB342_351 := n6_
            have NB351_342 := n7_
            have NB352_351 := n8_
            have NB351_352 := n9_
            have GW352 := n10_
            have GE352 := n11_
            have NB342_352 := n12_
            have NB352_342 := n13_
            have HB := n14_
            clear n0_ n1_ n2_ n3_ n4_ n5_ n6_ n7_ n8_ n9_ n10_ n11_ n12_ n13_ n14_
            have hHeld : w22.cell? (ad349.add (((ji11)).toNat * 2)) = some (.int .i64 ((rd_T34 t345 (ji11)).f0)) ∧ w22.cell? ⟨(ad349.add (((ji11)).toNat * 2)).block, (ad349.add (((ji11)).toNat * 2)).off + 1, none⟩ = some (.int .i64 ((rd_T34 t345 (ji11)).f1)) ∧ w22.cell? (ad349.add ((x8_1).toNat * 2)) = some (.int .i64 ((rd_T34 t345 x8_1).f0)) ∧ w22.cell? ⟨(ad349.add ((x8_1).toNat * 2)).block, (ad349.add ((x8_1).toNat * 2)).off + 1, none⟩ = some (.int .i64 ((rd_T34 t345 x8_1).f1)) := hS_
            refine norm_ (a' := ?_) ?_ ?_
            rotate_left
            ·simp only [putAll, Act.put, List.setIfInBounds_toArray, List.set_cons_zero, List.set_cons_succ]
             rfl
            refine one_ (i := 11) (N := none) #[true, true, true, true, true, true, true, true, true, true, true, true, false] rfl rfl (one_of HT_.out (by kernel_rfl)) (by decide) (fun K hK => ?_)
            have hs23 : w22.cell? ⟨gb351, 0, none⟩ = some (.int .i64 0) := (blk_cell BK351.out 0).trans rfl
            have hfs23 := blk_frozen BK351.out 0
            have hns23_0 := NB342_351.out
            have hns23_2 := NB352_351.out
            have hms23_0 := NB351_342.out
            have hms23_2 := NB351_352.out
            have hs24 : w22.cell? ⟨gb351, 1, none⟩ = some (.int .i64 0) := (blk_cell BK351.out 1).trans rfl
            have hfs24 := blk_frozen BK351.out 1
            have hns24_0 := NB342_351.out
            have hns24_2 := NB352_351.out
            have hms24_0 := NB351_342.out
            have hms24_2 := NB351_352.out
            refine skip_ (w1 := ?_) (by rfl) rfl ?_ ?_
            rotate_left
            ·go_simp
             rfl
            refine hK.out _ _ ⟨((cell_far (p := ⟨gb351, _, none⟩) (by first | exact Kd.own_blk (Kd.R_away HO_7.out (fun _ hk => hk.1)) | (rw [add_block]; exact Kd.own_blk (Kd.R_away HO_7.out (fun _ hk => hk.1))) | (show (Addr.add _ _).block ≠ _; rw [add_block]; exact Kd.own_blk (Kd.R_away HO_7.out (fun _ hk => hk.1))) | (dsimp only; exact Kd.own_blk (Kd.R_away HO_7.out (fun _ hk => hk.1)))) _).trans (((cell_far (p := ⟨gb351, _, none⟩) (by first | exact Kd.own_blk (Kd.R_away HO_7.out (fun _ hk => hk.1)) | (rw [add_block]; exact Kd.own_blk (Kd.R_away HO_7.out (fun _ hk => hk.1))) | (show (Addr.add _ _).block ≠ _; rw [add_block]; exact Kd.own_blk (Kd.R_away HO_7.out (fun _ hk => hk.1))) | (dsimp only; exact Kd.own_blk (Kd.R_away HO_7.out (fun _ hk => hk.1)))) _).trans (hHeld.1)))), ((cell_far (p := ⟨gb351, _, none⟩) (by first | exact Kd.own_blk (Kd.R_away HO_7.out (fun _ hk => hk.1)) | (rw [add_block]; exact Kd.own_blk (Kd.R_away HO_7.out (fun _ hk => hk.1))) | (show (Addr.add _ _).block ≠ _; rw [add_block]; exact Kd.own_blk (Kd.R_away HO_7.out (fun _ hk => hk.1))) | (dsimp only; exact Kd.own_blk (Kd.R_away HO_7.out (fun _ hk => hk.1)))) _).trans (((cell_far (p := ⟨gb351, _, none⟩) (by first | exact Kd.own_blk (Kd.R_away HO_7.out (fun _ hk => hk.1)) | (rw [add_block]; exact Kd.own_blk (Kd.R_away HO_7.out (fun _ hk => hk.1))) | (show (Addr.add _ _).block ≠ _; rw [add_block]; exact Kd.own_blk (Kd.R_away HO_7.out (fun _ hk => hk.1))) | (dsimp only; exact Kd.own_blk (Kd.R_away HO_7.out (fun _ hk => hk.1)))) _).trans (hHeld.2.1)))), ((cell_far (p := ⟨gb351, _, none⟩) (by first | exact Kd.own_blk (Kd.R_away HO_7.out (fun _ hk => hk.1)) | (rw [add_block]; exact Kd.own_blk (Kd.R_away HO_7.out (fun _ hk => hk.1))) | (show (Addr.add _ _).block ≠ _; rw [add_block]; exact Kd.own_blk (Kd.R_away HO_7.out (fun _ hk => hk.1))) | (dsimp only; exact Kd.own_blk (Kd.R_away HO_7.out (fun _ hk => hk.1)))) _).trans (((cell_far (p := ⟨gb351, _, none⟩) (by first | exact Kd.own_blk (Kd.R_away HO_7.out (fun _ hk => hk.1)) | (rw [add_block]; exact Kd.own_blk (Kd.R_away HO_7.out (fun _ hk => hk.1))) | (show (Addr.add _ _).block ≠ _; rw [add_block]; exact Kd.own_blk (Kd.R_away HO_7.out (fun _ hk => hk.1))) | (dsimp only; exact Kd.own_blk (Kd.R_away HO_7.out (fun _ hk => hk.1)))) _).trans (hHeld.2.2.1)))), ((cell_far (p := ⟨gb351, _, none⟩) (by first | exact Kd.own_blk (Kd.R_away HO_7.out (fun _ hk => hk.1)) | (rw [add_block]; exact Kd.own_blk (Kd.R_away HO_7.out (fun _ hk => hk.1))) | (show (Addr.add _ _).block ≠ _; rw [add_block]; exact Kd.own_blk (Kd.R_away HO_7.out (fun _ hk => hk.1))) | (dsimp only; exact Kd.own_blk (Kd.R_away HO_7.out (fun _ hk => hk.1)))) _).trans (((cell_far (p := ⟨gb351, _, none⟩) (by first | exact Kd.own_blk (Kd.R_away HO_7.out (fun _ hk => hk.1)) | (rw [add_block]; exact Kd.own_blk (Kd.R_away HO_7.out (fun _ hk => hk.1))) | (show (Addr.add _ _).block ≠ _; rw [add_block]; exact Kd.own_blk (Kd.R_away HO_7.out (fun _ hk => hk.1))) | (dsimp only; exact Kd.own_blk (Kd.R_away HO_7.out (fun _ hk => hk.1)))) _).trans (hHeld.2.2.2))))⟩ (fun hHeld => ?_)
            clear hK K
            refine one_ (i := 12) (N := none) #[true, true, true, true, true, true, true, true, true, true, true, true, true] rfl rfl (one_of HT_.out (by kernel_rfl)) (by decide) (fun K hK => ?_)
            have hs25 : w22.cell? ⟨gb352, 0, none⟩ = some (.int .i64 0) := (blk_cell BK352.out 0).trans rfl
            have hfs25 := blk_frozen BK352.out 0
            have hns25_0 := NB342_352.out
            have hns25_1 := NB351_352.out
            have hms25_0 := NB352_342.out
            have hms25_1 := NB352_351.out
            have hs26 : w22.cell? ⟨gb352, 1, none⟩ = some (.int .i64 0) := (blk_cell BK352.out 1).trans rfl
            have hfs26 := blk_frozen BK352.out 1
            have hns26_0 := NB342_352.out
            have hns26_1 := NB351_352.out
            have hms26_0 := NB352_342.out
            have hms26_1 := NB352_351.out
            refine skip_ (w1 := ?_) (by rfl) rfl ?_ ?_
            rotate_left
            ·go_simp
             rfl
            refine hK.out _ _ ⟨((cell_far (p := ⟨gb352, _, none⟩) (by first | exact Kd.own_blk (Kd.R_away HO_7.out (fun _ hk => hk.2)) | (rw [add_block]; exact Kd.own_blk (Kd.R_away HO_7.out (fun _ hk => hk.2))) | (show (Addr.add _ _).block ≠ _; rw [add_block]; exact Kd.own_blk (Kd.R_away HO_7.out (fun _ hk => hk.2))) | (dsimp only; exact Kd.own_blk (Kd.R_away HO_7.out (fun _ hk => hk.2)))) _).trans (((cell_far (p := ⟨gb352, _, none⟩) (by first | exact Kd.own_blk (Kd.R_away HO_7.out (fun _ hk => hk.2)) | (rw [add_block]; exact Kd.own_blk (Kd.R_away HO_7.out (fun _ hk => hk.2))) | (show (Addr.add _ _).block ≠ _; rw [add_block]; exact Kd.own_blk (Kd.R_away HO_7.out (fun _ hk => hk.2))) | (dsimp only; exact Kd.own_blk (Kd.R_away HO_7.out (fun _ hk => hk.2)))) _).trans (hHeld.1)))), ((cell_far (p := ⟨gb352, _, none⟩) (by first | exact Kd.own_blk (Kd.R_away HO_7.out (fun _ hk => hk.2)) | (rw [add_block]; exact Kd.own_blk (Kd.R_away HO_7.out (fun _ hk => hk.2))) | (show (Addr.add _ _).block ≠ _; rw [add_block]; exact Kd.own_blk (Kd.R_away HO_7.out (fun _ hk => hk.2))) | (dsimp only; exact Kd.own_blk (Kd.R_away HO_7.out (fun _ hk => hk.2)))) _).trans (((cell_far (p := ⟨gb352, _, none⟩) (by first | exact Kd.own_blk (Kd.R_away HO_7.out (fun _ hk => hk.2)) | (rw [add_block]; exact Kd.own_blk (Kd.R_away HO_7.out (fun _ hk => hk.2))) | (show (Addr.add _ _).block ≠ _; rw [add_block]; exact Kd.own_blk (Kd.R_away HO_7.out (fun _ hk => hk.2))) | (dsimp only; exact Kd.own_blk (Kd.R_away HO_7.out (fun _ hk => hk.2)))) _).trans (hHeld.2.1)))), ((cell_far (p := ⟨gb352, _, none⟩) (by first | exact Kd.own_blk (Kd.R_away HO_7.out (fun _ hk => hk.2)) | (rw [add_block]; exact Kd.own_blk (Kd.R_away HO_7.out (fun _ hk => hk.2))) | (show (Addr.add _ _).block ≠ _; rw [add_block]; exact Kd.own_blk (Kd.R_away HO_7.out (fun _ hk => hk.2))) | (dsimp only; exact Kd.own_blk (Kd.R_away HO_7.out (fun _ hk => hk.2)))) _).trans (((cell_far (p := ⟨gb352, _, none⟩) (by first | exact Kd.own_blk (Kd.R_away HO_7.out (fun _ hk => hk.2)) | (rw [add_block]; exact Kd.own_blk (Kd.R_away HO_7.out (fun _ hk => hk.2))) | (show (Addr.add _ _).block ≠ _; rw [add_block]; exact Kd.own_blk (Kd.R_away HO_7.out (fun _ hk => hk.2))) | (dsimp only; exact Kd.own_blk (Kd.R_away HO_7.out (fun _ hk => hk.2)))) _).trans (hHeld.2.2.1)))), ((cell_far (p := ⟨gb352, _, none⟩) (by first | exact Kd.own_blk (Kd.R_away HO_7.out (fun _ hk => hk.2)) | (rw [add_block]; exact Kd.own_blk (Kd.R_away HO_7.out (fun _ hk => hk.2))) | (show (Addr.add _ _).block ≠ _; rw [add_block]; exact Kd.own_blk (Kd.R_away HO_7.out (fun _ hk => hk.2))) | (dsimp only; exact Kd.own_blk (Kd.R_away HO_7.out (fun _ hk => hk.2)))) _).trans (((cell_far (p := ⟨gb352, _, none⟩) (by first | exact Kd.own_blk (Kd.R_away HO_7.out (fun _ hk => hk.2)) | (rw [add_block]; exact Kd.own_blk (Kd.R_away HO_7.out (fun _ hk => hk.2))) | (show (Addr.add _ _).block ≠ _; rw [add_block]; exact Kd.own_blk (Kd.R_away HO_7.out (fun _ hk => hk.2))) | (dsimp only; exact Kd.own_blk (Kd.R_away HO_7.out (fun _ hk => hk.2)))) _).trans (hHeld.2.2.2))))⟩ (fun hHeld => ?_)
            clear hK K
            refine done_ (done_of HT_.out (by kernel_rfl)) ?_
            have hnb27 := NB351_342.out
            have hnc27 := NB342_351.out
            have hnb28 := NB351_352.out
            have hnc28 := NB352_351.out
            have hcz29_0 : w22.cell? ⟨gb351, 0, none⟩ = some (.int .i64 0) := (blk_cell BK351.out 0).trans rfl
            have hcz29_1 : w22.cell? ⟨gb351, 1, none⟩ = some (.int .i64 0) := (blk_cell BK351.out 1).trans rfl
            have hfz29_0 := blk_frozen BK351.out 0
            have hfz29_1 := blk_frozen BK351.out 1
            have hnb30 := NB352_342.out
            have hnc30 := NB342_352.out
            have hcz31_0 : w22.cell? ⟨gb352, 0, none⟩ = some (.int .i64 0) := (blk_cell BK352.out 0).trans rfl
            have hcz31_1 : w22.cell? ⟨gb352, 1, none⟩ = some (.int .i64 0) := (blk_cell BK352.out 1).trans rfl
            have hfz31_0 := blk_frozen BK352.out 0
            have hfz31_1 := blk_frozen BK352.out 1
            try go_wp2
            go_ret
            exact ⟨by first | rfl | (simp [errW_none, errW_some] <;> rfl) | (simp only [← hji11]; first | rfl | (simp [errW_none, errW_some] <;> rfl)) | (simp [*, errW_none, errW_some] <;> rfl), by repeat (first | (with_reducible first | exact HB.out | apply below_alloc | apply pw_below_drewN | apply below_drew1 | refine below_set ?_ GE342.out | refine below_set ?_ GE351.out | refine below_set ?_ GE352.out) | exact HB.out)⟩
          ·rw [if_neg c16] at H
           have c16b0 : decide (a1 ≤ ((rd_T34 t345 x8_1).f0)) = false := decide_eq_false c16
           clear c16
           have H' := Aside0.mk H
           clear H
           obtain ⟨Ao32, co32, eo32⟩ := Kd.R_slice HO_7.out
           subst eo32
           try go_wp2
           have n0_ := Aside0.mk (Kd.R_drew HO_7.out)
           have n1_ := Aside0.mk (blk_drew BK342.out)
           have n2_ := Aside0.mk (below_drew1 HB.out)
           clear HO_7
           clear BK342
           clear HB
           have HO_7 := n0_
           have BK342 := n1_
           have HB := n2_
           clear n0_ n1_ n2_
           have p349 : 0 ≤ ((ji11) : Int) := of_decide_eq_true (by first | (with_reducible assumption) | assumption)
           have q349 : (ji11) < (t345.length : Int) := of_decide_eq_true (by first | (with_reducible assumption) | assumption)
           obtain ⟨ad349, e349, hx349_0, hx349_1⟩ := at_T34 (Kd.R_reads' HO_7.out).2.2 (ji11) p349 q349
           cases e349
           replace p349 := eq_true p349
           replace q349 := eq_true q349
           have p350 : 0 ≤ (x8_1 : Int) := of_decide_eq_true (by first | (with_reducible assumption) | assumption)
           have q350 : x8_1 < (t345.length : Int) := of_decide_eq_true (by first | (with_reducible assumption) | assumption)
           obtain ⟨ad350, e350, hx350_0, hx350_1⟩ := at_T34 (Kd.R_reads' HO_7.out).2.2 x8_1 p350 q350
           obtain rfl : ad349 = ad350 := (by injection e350)
           replace p350 := eq_true p350
           replace q350 := eq_true q350
           refine start_ (n := 13) (S := fun w' => w'.cell? (ad349.add (((ji11)).toNat * 2)) = some (.int .i64 ((rd_T34 t345 (ji11)).f0)) ∧ w'.cell? ⟨(ad349.add (((ji11)).toNat * 2)).block, (ad349.add (((ji11)).toNat * 2)).off + 1, none⟩ = some (.int .i64 ((rd_T34 t345 (ji11)).f1)) ∧ w'.cell? (ad349.add ((x8_1).toNat * 2)) = some (.int .i64 ((rd_T34 t345 x8_1).f0)) ∧ w'.cell? ⟨(ad349.add ((x8_1).toNat * 2)).block, (ad349.add ((x8_1).toNat * 2)).off + 1, none⟩ = some (.int .i64 ((rd_T34 t345 x8_1).f1))) (ds := []) #[false, false, false, false, false, false, false, false, false, false, false, false, false] (by kernel_rfl) rfl rfl ⟨hx349_0, hx349_1, hx350_0, hx350_1⟩ (fun hHeld => ?_); refine with_tabW assessorref51_parts.tab15 assessorref51_parts.bits15 (fun HT_ HW_ => ?_)
           generalize wr.drew = w33 at HO_7 BK342 HB hx349_0 hx349_1 hx350_0 hx350_1 hHeld ⊢
           refine pure_ (i := 0) (N := some 47) (v := ?_) (a' := ?_) #[true, false, false, false, false, false, false, false, false, false, false, false, false] rfl rfl (any_of HT_.out (by kernel_rfl)) (fun _ _ _ h => h) (Or.inl ⟨by rfl, ?_⟩) ?_ ?_
           rotate_left
           ·intro w'
            go_simp
            with_reducible rfl
           rotate_left
           ·simp only [Act.put, sA, sZ, sS, i64_w]
            rfl
           refine pure_ (i := 1) (N := some 48) (v := ?_) (a' := ?_) #[true, true, false, false, false, false, false, false, false, false, false, false, false] rfl rfl (any_of HT_.out (by kernel_rfl)) (fun _ _ _ h => h) (Or.inl ⟨by rfl, ?_⟩) ?_ ?_
           rotate_left
           ·intro w'
            go_simp
            with_reducible rfl
           rotate_left
           ·simp only [Act.put, sA, sZ, sS, i64_w]
            rfl
           refine pure_ (i := 2) (N := some 49) (v := ?_) (a' := ?_) #[true, true, true, false, false, false, false, false, false, false, false, false, false] rfl rfl (any_of HT_.out (by kernel_rfl)) (fun _ _ _ h => h) (Or.inl ⟨by rfl, ?_⟩) ?_ ?_
           rotate_left
           ·intro w'
            go_simp
            with_reducible rfl
           rotate_left
           ·simp only [Act.put, sA, sZ, sS, i64_w]
            rfl
           refine pure_ (i := 3) (N := some 50) (v := ?_) (a' := ?_) #[true, true, true, true, false, false, false, false, false, false, false, false, false] rfl rfl (any_of HT_.out (by kernel_rfl)) (fun _ _ _ h => h) (Or.inl ⟨by rfl, ?_⟩) ?_ ?_
           rotate_left
           ·intro w'
            go_simp
            with_reducible rfl
           rotate_left
           ·simp only [Act.put, sA, sZ, sS, i64_w]
            rfl
           refine pure_ (i := 5) (N := some 52) (v := ?_) (a' := ?_) #[true, true, true, true, false, true, false, false, false, false, false, false, false] rfl rfl (any_of HT_.out (by kernel_rfl)) (fun _ _ _ h => h) (Or.inl ⟨by rfl, ?_⟩) ?_ ?_
           rotate_left
           ·intro w'
            go_simp
            with_reducible rfl
           rotate_left
           ·simp only [Act.put, sA, sZ, sS, i64_w]
            rfl
           refine pure_ (i := 6) (N := some 53) (v := ?_) (a' := ?_) #[true, true, true, true, false, true, true, false, false, false, false, false, false] rfl rfl (any_of HT_.out (by kernel_rfl)) (fun _ _ _ h => h) (Or.inl ⟨by rfl, ?_⟩) ?_ ?_
           rotate_left
           ·intro w'
            go_simp
            with_reducible rfl
           rotate_left
           ·simp only [Act.put, sA, sZ, sS, i64_w]
            rfl
           refine pure_ (i := 7) (N := some 54) (v := ?_) (a' := ?_) #[true, true, true, true, false, true, true, true, false, false, false, false, false] rfl rfl (any_of HT_.out (by kernel_rfl)) (fun _ _ _ h => h) (Or.inl ⟨by rfl, ?_⟩) ?_ ?_
           rotate_left
           ·intro w'
            go_simp
            with_reducible rfl
           rotate_left
           ·simp only [Act.put, sA, sZ, sS, i64_w]
            rfl
           refine take_ (i := 4) (N := some 51) (v := ?_) (a' := ?_) #[true, true, true, true, true, true, true, true, false, false, false, false, false] rfl rfl (take_ofW HT_.out HW_.out (by kernel_rfl)) (fun _ _ _ h => h) (Or.inl ⟨by rfl, ?_⟩) hHeld ?_ ?_
           rotate_left
           ·rintro w' ⟨s0, s1, s2, s3⟩
            go_simp
            with_reducible rfl
           rotate_left
           ·simp only [Act.put, sA, sZ, sS, i64_w]
            rfl
           refine take_ (i := 8) (N := some 55) (v := ?_) (a' := ?_) #[true, true, true, true, true, true, true, true, true, false, false, false, false] rfl rfl (take_ofW HT_.out HW_.out (by kernel_rfl)) (fun _ _ _ h => h) (Or.inl ⟨by rfl, ?_⟩) hHeld ?_ ?_
           rotate_left
           ·rintro w' ⟨s0, s1, s2, s3⟩
            go_simp
            with_reducible rfl
           rotate_left
           ·simp only [Act.put, sA, sZ, sS, i64_w]
            rfl
           refine join_ (σ := Nat × Nat) 2 #[true, true, true, true, true, true, true, true, true, true, true, false, false] (fun s_ => [(9, .pointer (some ⟨s_.1, 0, none⟩)), (10, .pointer (some ⟨s_.2, 0, none⟩))]) (fun s_ w' => (w'.cell? (ad349.add (((ji11)).toNat * 2)) = some (.int .i64 ((rd_T34 t345 (ji11)).f0)) ∧ w'.cell? ⟨(ad349.add (((ji11)).toNat * 2)).block, (ad349.add (((ji11)).toNat * 2)).off + 1, none⟩ = some (.int .i64 ((rd_T34 t345 (ji11)).f1)) ∧ w'.cell? (ad349.add ((x8_1).toNat * 2)) = some (.int .i64 ((rd_T34 t345 x8_1).f0)) ∧ w'.cell? ⟨(ad349.add ((x8_1).toNat * 2)).block, (ad349.add ((x8_1).toNat * 2)).off + 1, none⟩ = some (.int .i64 ((rd_T34 t345 x8_1).f1))) ∧ (Kd.R k34 34 w' w.heap.size (fun k_ => k_ ≠ s_.1 ∧ k_ ≠ s_.2) (.slice (some ad349) t345.length co32) t345) ∧ (w'.heap[gb342]? = some (.cells #[.int .i64 a0_0, .int .i64 a0_1, .bool true, .slice A0_3 l0_3.length c0_3] 24 (0, 0))) ∧ (w'.heap[s_.1]? = some (.cells #[.int .i64 0, .int .i64 0] 34 (0, 0))) ∧ (w'.heap[s_.2]? = some (.cells #[.int .i64 0, .int .i64 0] 34 (0, 0))) ∧ (w.heap.size ≤ s_.1) ∧ (w.heap.size ≤ s_.1) ∧ (gb342 ≠ s_.1) ∧ (s_.1 ≠ gb342) ∧ (s_.2 ≠ s_.1) ∧ (s_.1 ≠ s_.2) ∧ (w.heap.size ≤ s_.2) ∧ (w.heap.size ≤ s_.2) ∧ (gb342 ≠ s_.2) ∧ (s_.2 ≠ gb342) ∧ (Below w.heap.size w w')) ?_ ?_
           rotate_left
           ·intro hCont
            refine two_ (i := 9) (j := 10) (Ni := some 9) (Nj := some 10) #[true, true, true, true, true, true, true, true, true, true, false, false, false] #[true, true, true, true, true, true, true, true, true, false, true, false, false] rfl rfl rfl rfl (two_of HT_.out (by kernel_rfl)) (by decide) (by decide) (fun K hK => ?_) (fun K hK => ?_)
            ·skip
             refine box_step ?hg (N := 9) ?hd (cs := #[.int .i64 0, .int .i64 0]) (t := 34) ?hr ?_; (case hd => rfl); (case hg => rfl); (case hr => first | (go_simp; done) | (go_simp; rfl))
             intro gb351 hg w34 hbox hb
             have HS0_ := (hb.cell (World.block_lt_of_cell? _ _ (hHeld.1))).trans (hHeld.1)
             have HS1_ := (hb.cell (World.block_lt_of_cell? _ _ (hHeld.2.1))).trans (hHeld.2.1)
             have HS2_ := (hb.cell (World.block_lt_of_cell? _ _ (hHeld.2.2.1))).trans (hHeld.2.2.1)
             have HS3_ := (hb.cell (World.block_lt_of_cell? _ _ (hHeld.2.2.2))).trans (hHeld.2.2.2)
             have n0_ := Aside0.mk (Kd.R_below (Kd.R_elderB (by (with_reducible repeat (first | apply Kd.R_alloc | apply Kd.R_drewN | apply Kd.R_drew)); exact HO_7.out) gb351 (Nat.le_of_eq hg.symm)) hb)
             have n1_ := Aside0.mk (blk_below (g := gb342) (o := .cells #[.int .i64 a0_0, .int .i64 a0_1, .bool true, .slice A0_3 l0_3.length c0_3] 24 (0, 0)) (by (with_reducible repeat (first | refine blk_drewN ?_ _ | refine blk_drew ?_ | refine blk_alloc ?_ _)); exact BK342.out) hb)
             have n2_ := Aside0.mk (below_step (by repeat (first | (with_reducible first | exact HB.out | apply below_alloc | apply pw_below_drewN | apply below_drew1 | refine below_set ?_ GE342.out) | exact HB.out)) hb)
             have n3_ := Aside0.mk (hbox)
             have n4_ := Aside0.mk ((by rw [hg]; exact (below_size (by repeat (first | (with_reducible first | exact HB.out | apply below_alloc | apply pw_below_drewN | apply below_drew1 | refine below_set ?_ GE342.out) | exact HB.out))) : w.heap.size ≤ gb351))
             have n5_ := Aside0.mk ((by rw [hg]; exact (below_size (by repeat (first | (with_reducible first | exact HB.out | apply below_alloc | apply pw_below_drewN | apply below_drew1 | refine below_set ?_ GE342.out) | exact HB.out))) : w.heap.size ≤ gb351))
             have n6_ := Aside0.mk ((by rw [hg]; exact Nat.ne_of_lt (blk_lt (g := gb342) (o := .cells #[.int .i64 a0_0, .int .i64 a0_1, .bool true, .slice A0_3 l0_3.length c0_3] 24 (0, 0)) (by (with_reducible repeat (first | refine blk_drewN ?_ _ | refine blk_drew ?_ | refine blk_alloc ?_ _)); exact BK342.out)) : gb342 ≠ gb351))
             have n7_ := Aside0.mk ((by rw [hg]; exact Nat.ne_of_gt (blk_lt (g := gb342) (o := .cells #[.int .i64 a0_0, .int .i64 a0_1, .bool true, .slice A0_3 l0_3.length c0_3] 24 (0, 0)) (by (with_reducible repeat (first | refine blk_drewN ?_ _ | refine blk_drew ?_ | refine blk_alloc ?_ _)); exact BK342.out)) : gb351 ≠ gb342))
             clear HO_7
             clear BK342
             clear HB
             have HO_7 := n0_
             have BK342 := n1_
             have HB := n2_
             have BK351 := n3_
             have GW351 := n4_
             have GE351 := n5_
             have NB342_351 := n6_
             have NB351_342 := n7_
             clear n0_ n1_ n2_ n3_ n4_ n5_ n6_ n7_
             clear hb hbox hg
             refine hK.out _ _ ⟨HS0_, HS1_, HS2_, HS3_⟩ (fun hHeld => ?_)
             clear hK K
             refine norm_ (a' := ?_) ?_ ?_
             rotate_left
             ·show Act.put _ (some 9) _ = _
              simp only [Act.put, sA, sZ, sS, i64_w]
              rfl
             refine one_ (i := 10) (N := some 10) #[true, true, true, true, true, true, true, true, true, true, true, false, false] rfl rfl (one_of HT_.out (by kernel_rfl)) (by decide) (fun K hK => ?_)
             refine box_step ?hg (N := 10) ?hd (cs := #[.int .i64 0, .int .i64 0]) (t := 34) ?hr ?_; (case hd => rfl); (case hg => rfl); (case hr => first | (go_simp; done) | (go_simp; rfl))
             intro gb352 hg w35 hbox hb
             have HS0_ := (hb.cell (World.block_lt_of_cell? _ _ (hHeld.1))).trans (hHeld.1)
             have HS1_ := (hb.cell (World.block_lt_of_cell? _ _ (hHeld.2.1))).trans (hHeld.2.1)
             have HS2_ := (hb.cell (World.block_lt_of_cell? _ _ (hHeld.2.2.1))).trans (hHeld.2.2.1)
             have HS3_ := (hb.cell (World.block_lt_of_cell? _ _ (hHeld.2.2.2))).trans (hHeld.2.2.2)
             have n0_ := Aside0.mk (Kd.R_below (Kd.R_elderB (by (with_reducible repeat (first | apply Kd.R_alloc | apply Kd.R_drewN | apply Kd.R_drew)); exact HO_7.out) gb352 (Nat.le_of_eq hg.symm)) hb)
             have n1_ := Aside0.mk (blk_below (g := gb342) (o := .cells #[.int .i64 a0_0, .int .i64 a0_1, .bool true, .slice A0_3 l0_3.length c0_3] 24 (0, 0)) (by (with_reducible repeat (first | refine blk_drewN ?_ _ | refine blk_drew ?_ | refine blk_alloc ?_ _)); exact BK342.out) hb)
             have n2_ := Aside0.mk (blk_below (g := gb351) (o := .cells #[.int .i64 0, .int .i64 0] 34 (0, 0)) (by (with_reducible repeat (first | refine blk_drewN ?_ _ | refine blk_drew ?_ | refine blk_alloc ?_ _)); exact BK351.out) hb)
             have n3_ := Aside0.mk (below_step (by repeat (first | (with_reducible first | exact HB.out | apply below_alloc | apply pw_below_drewN | apply below_drew1 | refine below_set ?_ GE342.out | refine below_set ?_ GE351.out) | exact HB.out)) hb)
             have n4_ := Aside0.mk (hbox)
             have n5_ := Aside0.mk ((by rw [hg]; exact (below_size (by repeat (first | (with_reducible first | exact HB.out | apply below_alloc | apply pw_below_drewN | apply below_drew1 | refine below_set ?_ GE342.out | refine below_set ?_ GE351.out) | exact HB.out))) : w.heap.size ≤ gb352))
             have n6_ := Aside0.mk ((by rw [hg]; exact (below_size (by repeat (first | (with_reducible first | exact HB.out | apply below_alloc | apply pw_below_drewN | apply below_drew1 | refine below_set ?_ GE342.out | refine below_set ?_ GE351.out) | exact HB.out))) : w.heap.size ≤ gb352))
             have n7_ := Aside0.mk ((by rw [hg]; exact Nat.ne_of_lt (blk_lt (g := gb342) (o := .cells #[.int .i64 a0_0, .int .i64 a0_1, .bool true, .slice A0_3 l0_3.length c0_3] 24 (0, 0)) (by (with_reducible repeat (first | refine blk_drewN ?_ _ | refine blk_drew ?_ | refine blk_alloc ?_ _)); exact BK342.out)) : gb342 ≠ gb352))
             have n8_ := Aside0.mk ((by rw [hg]; exact Nat.ne_of_gt (blk_lt (g := gb342) (o := .cells #[.int .i64 a0_0, .int .i64 a0_1, .bool true, .slice A0_3 l0_3.length c0_3] 24 (0, 0)) (by (with_reducible repeat (first | refine blk_drewN ?_ _ | refine blk_drew ?_ | refine blk_alloc ?_ _)); exact BK342.out)) : gb352 ≠ gb342))
             have n9_ := Aside0.mk ((by rw [hg]; exact Nat.ne_of_lt (blk_lt (g := gb351) (o := .cells #[.int .i64 0, .int .i64 0] 34 (0, 0)) (by (with_reducible repeat (first | refine blk_drewN ?_ _ | refine blk_drew ?_ | refine blk_alloc ?_ _)); exact BK351.out)) : gb351 ≠ gb352))
             have n10_ := Aside0.mk ((by rw [hg]; exact Nat.ne_of_gt (blk_lt (g := gb351) (o := .cells #[.int .i64 0, .int .i64 0] 34 (0, 0)) (by (with_reducible repeat (first | refine blk_drewN ?_ _ | refine blk_drew ?_ | refine blk_alloc ?_ _)); exact BK351.out)) : gb352 ≠ gb351))
             clear HO_7
             clear BK342
             clear BK351
             clear HB
             have HO_7 := n0_
             have BK342 := n1_
             have BK351 := n2_
             have HB := n3_
             have BK352 := n4_
             have GW352 := n5_
             have GE352 := n6_
             have NB342_352 := n7_
             have NB352_342 := n8_
             have NB351_352 := n9_
             have NB352_351 := n10_
             clear n0_ n1_ n2_ n3_ n4_ n5_ n6_ n7_ n8_ n9_ n10_
             clear hb hbox hg
             refine hK.out _ _ ⟨HS0_, HS1_, HS2_, HS3_⟩ (fun hHeld => ?_)
             clear hK K
             refine norm_ (a' := ?_) ?_ ?_
             rotate_left
             ·show Act.put _ (some 10) _ = _
              simp only [Act.put, sA, sZ, sS, i64_w]
              rfl
             exact norm_ (by simp only [putAll, Act.put, List.setIfInBounds_toArray, List.set_cons_zero, List.set_cons_succ]) (hCont (gb351, gb352) _ ⟨hHeld, (by (with_reducible repeat (first | apply Kd.R_alloc | apply Kd.R_drewN | apply Kd.R_drew)); exact Kd.R_mono HO_7.out (fun _ hk => ⟨hk.1.2, hk.2⟩)), (by (with_reducible repeat (first | refine blk_drewN ?_ _ | refine blk_drew ?_ | refine blk_alloc ?_ _)); exact BK342.out), (by (with_reducible repeat (first | refine blk_drewN ?_ _ | refine blk_drew ?_ | refine blk_alloc ?_ _)); exact BK351.out), (by (with_reducible repeat (first | refine blk_drewN ?_ _ | refine blk_drew ?_ | refine blk_alloc ?_ _)); exact BK352.out), GW351.out, GE351.out, NB342_351.out, NB351_342.out, NB352_351.out, NB351_352.out, GW352.out, GE352.out, NB342_352.out, NB352_342.out, (by repeat (first | (with_reducible first | exact HB.out | apply below_alloc | apply pw_below_drewN | apply below_drew1 | refine below_set ?_ GE342.out | refine below_set ?_ GE351.out | refine below_set ?_ GE352.out) | exact HB.out))⟩)
            ·skip
             refine box_step ?hg (N := 10) ?hd (cs := #[.int .i64 0, .int .i64 0]) (t := 34) ?hr ?_; (case hd => rfl); (case hg => rfl); (case hr => first | (go_simp; done) | (go_simp; rfl))
             intro gb352 hg w34 hbox hb
             have HS0_ := (hb.cell (World.block_lt_of_cell? _ _ (hHeld.1))).trans (hHeld.1)
             have HS1_ := (hb.cell (World.block_lt_of_cell? _ _ (hHeld.2.1))).trans (hHeld.2.1)
             have HS2_ := (hb.cell (World.block_lt_of_cell? _ _ (hHeld.2.2.1))).trans (hHeld.2.2.1)
             have HS3_ := (hb.cell (World.block_lt_of_cell? _ _ (hHeld.2.2.2))).trans (hHeld.2.2.2)
             have n0_ := Aside0.mk (Kd.R_below (Kd.R_elderB (by (with_reducible repeat (first | apply Kd.R_alloc | apply Kd.R_drewN | apply Kd.R_drew)); exact HO_7.out) gb352 (Nat.le_of_eq hg.symm)) hb)
             have n1_ := Aside0.mk (blk_below (g := gb342) (o := .cells #[.int .i64 a0_0, .int .i64 a0_1, .bool true, .slice A0_3 l0_3.length c0_3] 24 (0, 0)) (by (with_reducible repeat (first | refine blk_drewN ?_ _ | refine blk_drew ?_ | refine blk_alloc ?_ _)); exact BK342.out) hb)
             have n2_ := Aside0.mk (below_step (by repeat (first | (with_reducible first | exact HB.out | apply below_alloc | apply pw_below_drewN | apply below_drew1 | refine below_set ?_ GE342.out) | exact HB.out)) hb)
             have n3_ := Aside0.mk (hbox)
             have n4_ := Aside0.mk ((by rw [hg]; exact (below_size (by repeat (first | (with_reducible first | exact HB.out | apply below_alloc | apply pw_below_drewN | apply below_drew1 | refine below_set ?_ GE342.out) | exact HB.out))) : w.heap.size ≤ gb352))
             have n5_ := Aside0.mk ((by rw [hg]; exact (below_size (by repeat (first | (with_reducible first | exact HB.out | apply below_alloc | apply pw_below_drewN | apply below_drew1 | refine below_set ?_ GE342.out) | exact HB.out))) : w.heap.size ≤ gb352))
             have n6_ := Aside0.mk ((by rw [hg]; exact Nat.ne_of_lt (blk_lt (g := gb342) (o := .cells #[.int .i64 a0_0, .int .i64 a0_1, .bool true, .slice A0_3 l0_3.length c0_3] 24 (0, 0)) (by (with_reducible repeat (first | refine blk_drewN ?_ _ | refine blk_drew ?_ | refine blk_alloc ?_ _)); exact BK342.out)) : gb342 ≠ gb352))
             have n7_ := Aside0.mk ((by rw [hg]; exact Nat.ne_of_gt (blk_lt (g := gb342) (o := .cells #[.int .i64 a0_0, .int .i64 a0_1, .bool true, .slice A0_3 l0_3.length c0_3] 24 (0, 0)) (by (with_reducible repeat (first | refine blk_drewN ?_ _ | refine blk_drew ?_ | refine blk_alloc ?_ _)); exact BK342.out)) : gb352 ≠ gb342))
             clear HO_7
             clear BK342
             clear HB
             have HO_7 := n0_
             have BK342 := n1_
             have HB := n2_
             have BK352 := n3_
             have GW352 := n4_
             have GE352 := n5_
             have NB342_352 := n6_
             have NB352_342 := n7_
             clear n0_ n1_ n2_ n3_ n4_ n5_ n6_ n7_
             clear hb hbox hg
             refine hK.out _ _ ⟨HS0_, HS1_, HS2_, HS3_⟩ (fun hHeld => ?_)
             clear hK K
             refine norm_ (a' := ?_) ?_ ?_
             rotate_left
             ·show Act.put _ (some 10) _ = _
              simp only [Act.put, sA, sZ, sS, i64_w]
              rfl
             refine one_ (i := 9) (N := some 9) #[true, true, true, true, true, true, true, true, true, true, true, false, false] rfl rfl (one_of HT_.out (by kernel_rfl)) (by decide) (fun K hK => ?_)
             refine box_step ?hg (N := 9) ?hd (cs := #[.int .i64 0, .int .i64 0]) (t := 34) ?hr ?_; (case hd => rfl); (case hg => rfl); (case hr => first | (go_simp; done) | (go_simp; rfl))
             intro gb351 hg w35 hbox hb
             have HS0_ := (hb.cell (World.block_lt_of_cell? _ _ (hHeld.1))).trans (hHeld.1)
             have HS1_ := (hb.cell (World.block_lt_of_cell? _ _ (hHeld.2.1))).trans (hHeld.2.1)
             have HS2_ := (hb.cell (World.block_lt_of_cell? _ _ (hHeld.2.2.1))).trans (hHeld.2.2.1)
             have HS3_ := (hb.cell (World.block_lt_of_cell? _ _ (hHeld.2.2.2))).trans (hHeld.2.2.2)
             have n0_ := Aside0.mk (Kd.R_below (Kd.R_elderB (by (with_reducible repeat (first | apply Kd.R_alloc | apply Kd.R_drewN | apply Kd.R_drew)); exact HO_7.out) gb351 (Nat.le_of_eq hg.symm)) hb)
             have n1_ := Aside0.mk (blk_below (g := gb342) (o := .cells #[.int .i64 a0_0, .int .i64 a0_1, .bool true, .slice A0_3 l0_3.length c0_3] 24 (0, 0)) (by (with_reducible repeat (first | refine blk_drewN ?_ _ | refine blk_drew ?_ | refine blk_alloc ?_ _)); exact BK342.out) hb)
             have n2_ := Aside0.mk (blk_below (g := gb352) (o := .cells #[.int .i64 0, .int .i64 0] 34 (0, 0)) (by (with_reducible repeat (first | refine blk_drewN ?_ _ | refine blk_drew ?_ | refine blk_alloc ?_ _)); exact BK352.out) hb)
             have n3_ := Aside0.mk (below_step (by repeat (first | (with_reducible first | exact HB.out | apply below_alloc | apply pw_below_drewN | apply below_drew1 | refine below_set ?_ GE342.out | refine below_set ?_ GE352.out) | exact HB.out)) hb)
             have n4_ := Aside0.mk (hbox)
             have n5_ := Aside0.mk ((by rw [hg]; exact (below_size (by repeat (first | (with_reducible first | exact HB.out | apply below_alloc | apply pw_below_drewN | apply below_drew1 | refine below_set ?_ GE342.out | refine below_set ?_ GE352.out) | exact HB.out))) : w.heap.size ≤ gb351))
             have n6_ := Aside0.mk ((by rw [hg]; exact (below_size (by repeat (first | (with_reducible first | exact HB.out | apply below_alloc | apply pw_below_drewN | apply below_drew1 | refine below_set ?_ GE342.out | refine below_set ?_ GE352.out) | exact HB.out))) : w.heap.size ≤ gb351))
             have n7_ := Aside0.mk ((by rw [hg]; exact Nat.ne_of_lt (blk_lt (g := gb342) (o := .cells #[.int .i64 a0_0, .int .i64 a0_1, .bool true, .slice A0_3 l0_3.length c0_3] 24 (0, 0)) (by (with_reducible repeat (first | refine blk_drewN ?_ _ | refine blk_drew ?_ | refine blk_alloc ?_ _)); exact BK342.out)) : gb342 ≠ gb351))
             have n8_ := Aside0.mk ((by rw [hg]; exact Nat.ne_of_gt (blk_lt (g := gb342) (o := .cells #[.int .i64 a0_0, .int .i64 a0_1, .bool true, .slice A0_3 l0_3.length c0_3] 24 (0, 0)) (by (with_reducible repeat (first | refine blk_drewN ?_ _ | refine blk_drew ?_ | refine blk_alloc ?_ _)); exact BK342.out)) : gb351 ≠ gb342))
             have n9_ := Aside0.mk ((by rw [hg]; exact Nat.ne_of_lt (blk_lt (g := gb352) (o := .cells #[.int .i64 0, .int .i64 0] 34 (0, 0)) (by (with_reducible repeat (first | refine blk_drewN ?_ _ | refine blk_drew ?_ | refine blk_alloc ?_ _)); exact BK352.out)) : gb352 ≠ gb351))
             have n10_ := Aside0.mk ((by rw [hg]; exact Nat.ne_of_gt (blk_lt (g := gb352) (o := .cells #[.int .i64 0, .int .i64 0] 34 (0, 0)) (by (with_reducible repeat (first | refine blk_drewN ?_ _ | refine blk_drew ?_ | refine blk_alloc ?_ _)); exact BK352.out)) : gb351 ≠ gb352))
             clear HO_7
             clear BK342
             clear BK352
             clear HB
             have HO_7 := n0_
             have BK342 := n1_
             have BK352 := n2_
             have HB := n3_
             have BK351 := n4_
             have GW351 := n5_
             have GE351 := n6_
             have NB342_351 := n7_
             have NB351_342 := n8_
             have NB352_351 := n9_
             have NB351_352 := n10_
             clear n0_ n1_ n2_ n3_ n4_ n5_ n6_ n7_ n8_ n9_ n10_
             clear hb hbox hg
             refine hK.out _ _ ⟨HS0_, HS1_, HS2_, HS3_⟩ (fun hHeld => ?_)
             clear hK K
             refine norm_ (a' := ?_) ?_ ?_
             rotate_left
             ·show Act.put _ (some 9) _ = _
              simp only [Act.put, sA, sZ, sS, i64_w]
              rfl
             exact norm_ (by simp only [putAll, Act.put, List.setIfInBounds_toArray, List.set_cons_zero, List.set_cons_succ]) (hCont (gb351, gb352) _ ⟨hHeld, (by (with_reducible repeat (first | apply Kd.R_alloc | apply Kd.R_drewN | apply Kd.R_drew)); exact Kd.R_mono HO_7.out (fun _ hk => ⟨hk.2, hk.1.2⟩)), (by (with_reducible repeat (first | refine blk_drewN ?_ _ | refine blk_drew ?_ | refine blk_alloc ?_ _)); exact BK342.out), (by (with_reducible repeat (first | refine blk_drewN ?_ _ | refine blk_drew ?_ | refine blk_alloc ?_ _)); exact BK351.out), (by (with_reducible repeat (first | refine blk_drewN ?_ _ | refine blk_drew ?_ | refine blk_alloc ?_ _)); exact BK352.out), GW351.out, GE351.out, NB342_351.out, NB351_342.out, NB352_351.out, NB351_352.out, GW352.out, GE352.out, NB342_352.out, NB352_342.out, (by repeat (first | (with_reducible first | exact HB.out | apply below_alloc | apply pw_below_drewN | apply below_drew1 | refine below_set ?_ GE342.out | refine below_set ?_ GE352.out | refine below_set ?_ GE351.out) | exact HB.out))⟩)
           rintro ⟨gb351, gb352⟩ w36 ⟨hS_, h0_, h1_, h2_, h3_, h4_, h5_, h6_, h7_, h8_, h9_, h10_, h11_, h12_, h13_, h14_⟩
           have n0_ : Aside0 (Kd.R k34 34 w36 w.heap.size (fun k_ => k_ ≠ gb351 ∧ k_ ≠ gb352) (.slice (some ad349) t345.length co32) t345) := ⟨h0_⟩
           have n1_ : Aside0 (w36.heap[gb342]? = some (.cells #[.int .i64 a0_0, .int .i64 a0_1, .bool true, .slice A0_3 l0_3.length c0_3] 24 (0, 0))) := ⟨h1_⟩
           have n2_ : Aside0 (w36.heap[gb351]? = some (.cells #[.int .i64 0, .int .i64 0] 34 (0, 0))) := ⟨h2_⟩
           have n3_ : Aside0 (w36.heap[gb352]? = some (.cells #[.int .i64 0, .int .i64 0] 34 (0, 0))) := ⟨h3_⟩
           have n4_ : Aside0 (w.heap.size ≤ gb351) := ⟨h4_⟩
           have n5_ : Aside0 (w.heap.size ≤ gb351) := ⟨h5_⟩
           have n6_ : Aside0 (gb342 ≠ gb351) := ⟨h6_⟩
           have n7_ : Aside0 (gb351 ≠ gb342) := ⟨h7_⟩
           have n8_ : Aside0 (gb352 ≠ gb351) := ⟨h8_⟩
           have n9_ : Aside0 (gb351 ≠ gb352) := ⟨h9_⟩
           have n10_ : Aside0 (w.heap.size ≤ gb352) := ⟨h10_⟩
           have n11_ : Aside0 (w.heap.size ≤ gb352) := ⟨h11_⟩
           have n12_ : Aside0 (gb342 ≠ gb352) := ⟨h12_⟩
           have n13_ : Aside0 (gb352 ≠ gb342) := ⟨h13_⟩
           have n14_ : Aside0 (Below w.heap.size w w36) := ⟨h14_⟩
           clear HO_7
           clear BK342
           clear HB
           clear h0_ h1_ h2_ h3_ h4_ h5_ h6_ h7_ h8_ h9_ h10_ h11_ h12_ h13_ h14_
           have HO_7 := n0_
           have BK342 := n1_
           have BK351 := n2_
           have BK352 := n3_
           have GW351 := n4_
           have GE351 := n5_
           have NB342_351 := n6_
           have NB351_342 := n7_
           have NB352_351 := n8_
           have NB351_352 := n9_
           have GW352 := n10_
           have GE352 := n11_
           have NB342_352 := n12_
           have NB352_342 := n13_
           have HB := n14_
           clear n0_ n1_ n2_ n3_ n4_ n5_ n6_ n7_ n8_ n9_ n10_ n11_ n12_ n13_ n14_
           have hHeld : w36.cell? (ad349.add (((ji11)).toNat * 2)) = some (.int .i64 ((rd_T34 t345 (ji11)).f0)) ∧ w36.cell? ⟨(ad349.add (((ji11)).toNat * 2)).block, (ad349.add (((ji11)).toNat * 2)).off + 1, none⟩ = some (.int .i64 ((rd_T34 t345 (ji11)).f1)) ∧ w36.cell? (ad349.add ((x8_1).toNat * 2)) = some (.int .i64 ((rd_T34 t345 x8_1).f0)) ∧ w36.cell? ⟨(ad349.add ((x8_1).toNat * 2)).block, (ad349.add ((x8_1).toNat * 2)).off + 1, none⟩ = some (.int .i64 ((rd_T34 t345 x8_1).f1)) := hS_
           refine norm_ (a' := ?_) ?_ ?_
           rotate_left
           ·simp only [putAll, Act.put, List.setIfInBounds_toArray, List.set_cons_zero, List.set_cons_succ]
            rfl
           refine one_ (i := 11) (N := none) #[true, true, true, true, true, true, true, true, true, true, true, true, false] rfl rfl (one_of HT_.out (by kernel_rfl)) (by decide) (fun K hK => ?_)
           have hs37 : w36.cell? ⟨gb351, 0, none⟩ = some (.int .i64 0) := (blk_cell BK351.out 0).trans rfl
           have hfs37 := blk_frozen BK351.out 0
           have hns37_0 := NB342_351.out
           have hns37_2 := NB352_351.out
           have hms37_0 := NB351_342.out
           have hms37_2 := NB351_352.out
           have hs38 : w36.cell? ⟨gb351, 1, none⟩ = some (.int .i64 0) := (blk_cell BK351.out 1).trans rfl
           have hfs38 := blk_frozen BK351.out 1
           have hns38_0 := NB342_351.out
           have hns38_2 := NB352_351.out
           have hms38_0 := NB351_342.out
           have hms38_2 := NB351_352.out
           refine skip_ (w1 := ?_) (by rfl) rfl ?_ ?_
           rotate_left
           ·go_simp
            rfl
           refine hK.out _ _ ⟨((cell_far (p := ⟨gb351, _, none⟩) (by first | exact Kd.own_blk (Kd.R_away HO_7.out (fun _ hk => hk.1)) | (rw [add_block]; exact Kd.own_blk (Kd.R_away HO_7.out (fun _ hk => hk.1))) | (show (Addr.add _ _).block ≠ _; rw [add_block]; exact Kd.own_blk (Kd.R_away HO_7.out (fun _ hk => hk.1))) | (dsimp only; exact Kd.own_blk (Kd.R_away HO_7.out (fun _ hk => hk.1)))) _).trans (((cell_far (p := ⟨gb351, _, none⟩) (by first | exact Kd.own_blk (Kd.R_away HO_7.out (fun _ hk => hk.1)) | (rw [add_block]; exact Kd.own_blk (Kd.R_away HO_7.out (fun _ hk => hk.1))) | (show (Addr.add _ _).block ≠ _; rw [add_block]; exact Kd.own_blk (Kd.R_away HO_7.out (fun _ hk => hk.1))) | (dsimp only; exact Kd.own_blk (Kd.R_away HO_7.out (fun _ hk => hk.1)))) _).trans (hHeld.1)))), ((cell_far (p := ⟨gb351, _, none⟩) (by first | exact Kd.own_blk (Kd.R_away HO_7.out (fun _ hk => hk.1)) | (rw [add_block]; exact Kd.own_blk (Kd.R_away HO_7.out (fun _ hk => hk.1))) | (show (Addr.add _ _).block ≠ _; rw [add_block]; exact Kd.own_blk (Kd.R_away HO_7.out (fun _ hk => hk.1))) | (dsimp only; exact Kd.own_blk (Kd.R_away HO_7.out (fun _ hk => hk.1)))) _).trans (((cell_far (p := ⟨gb351, _, none⟩) (by first | exact Kd.own_blk (Kd.R_away HO_7.out (fun _ hk => hk.1)) | (rw [add_block]; exact Kd.own_blk (Kd.R_away HO_7.out (fun _ hk => hk.1))) | (show (Addr.add _ _).block ≠ _; rw [add_block]; exact Kd.own_blk (Kd.R_away HO_7.out (fun _ hk => hk.1))) | (dsimp only; exact Kd.own_blk (Kd.R_away HO_7.out (fun _ hk => hk.1)))) _).trans (hHeld.2.1)))), ((cell_far (p := ⟨gb351, _, none⟩) (by first | exact Kd.own_blk (Kd.R_away HO_7.out (fun _ hk => hk.1)) | (rw [add_block]; exact Kd.own_blk (Kd.R_away HO_7.out (fun _ hk => hk.1))) | (show (Addr.add _ _).block ≠ _; rw [add_block]; exact Kd.own_blk (Kd.R_away HO_7.out (fun _ hk => hk.1))) | (dsimp only; exact Kd.own_blk (Kd.R_away HO_7.out (fun _ hk => hk.1)))) _).trans (((cell_far (p := ⟨gb351, _, none⟩) (by first | exact Kd.own_blk (Kd.R_away HO_7.out (fun _ hk => hk.1)) | (rw [add_block]; exact Kd.own_blk (Kd.R_away HO_7.out (fun _ hk => hk.1))) | (show (Addr.add _ _).block ≠ _; rw [add_block]; exact Kd.own_blk (Kd.R_away HO_7.out (fun _ hk => hk.1))) | (dsimp only; exact Kd.own_blk (Kd.R_away HO_7.out (fun _ hk => hk.1)))) _).trans (hHeld.2.2.1)))), ((cell_far (p := ⟨gb351, _, none⟩) (by first | exact Kd.own_blk (Kd.R_away HO_7.out (fun _ hk => hk.1)) | (rw [add_block]; exact Kd.own_blk (Kd.R_away HO_7.out (fun _ hk => hk.1))) | (show (Addr.add _ _).block ≠ _; rw [add_block]; exact Kd.own_blk (Kd.R_away HO_7.out (fun _ hk => hk.1))) | (dsimp only; exact Kd.own_blk (Kd.R_away HO_7.out (fun _ hk => hk.1)))) _).trans (((cell_far (p := ⟨gb351, _, none⟩) (by first | exact Kd.own_blk (Kd.R_away HO_7.out (fun _ hk => hk.1)) | (rw [add_block]; exact Kd.own_blk (Kd.R_away HO_7.out (fun _ hk => hk.1))) | (show (Addr.add _ _).block ≠ _; rw [add_block]; exact Kd.own_blk (Kd.R_away HO_7.out (fun _ hk => hk.1))) | (dsimp only; exact Kd.own_blk (Kd.R_away HO_7.out (fun _ hk => hk.1)))) _).trans (hHeld.2.2.2))))⟩ (fun hHeld => ?_)
           clear hK K
           refine one_ (i := 12) (N := none) #[true, true, true, true, true, true, true, true, true, true, true, true, true] rfl rfl (one_of HT_.out (by kernel_rfl)) (by decide) (fun K hK => ?_)
           have hs39 : w36.cell? ⟨gb352, 0, none⟩ = some (.int .i64 0) := (blk_cell BK352.out 0).trans rfl
           have hfs39 := blk_frozen BK352.out 0
           have hns39_0 := NB342_352.out
           have hns39_1 := NB351_352.out
           have hms39_0 := NB352_342.out
           have hms39_1 := NB352_351.out
           have hs40 : w36.cell? ⟨gb352, 1, none⟩ = some (.int .i64 0) := (blk_cell BK352.out 1).trans rfl
           have hfs40 := blk_frozen BK352.out 1
           have hns40_0 := NB342_352.out
           have hns40_1 := NB351_352.out
           have hms40_0 := NB352_342.out
           have hms40_1 := NB352_351.out
           refine skip_ (w1 := ?_) (by rfl) rfl ?_ ?_
           rotate_left
           ·go_simp
            rfl
           refine hK.out _ _ ⟨((cell_far (p := ⟨gb352, _, none⟩) (by first | exact Kd.own_blk (Kd.R_away HO_7.out (fun _ hk => hk.2)) | (rw [add_block]; exact Kd.own_blk (Kd.R_away HO_7.out (fun _ hk => hk.2))) | (show (Addr.add _ _).block ≠ _; rw [add_block]; exact Kd.own_blk (Kd.R_away HO_7.out (fun _ hk => hk.2))) | (dsimp only; exact Kd.own_blk (Kd.R_away HO_7.out (fun _ hk => hk.2)))) _).trans (((cell_far (p := ⟨gb352, _, none⟩) (by first | exact Kd.own_blk (Kd.R_away HO_7.out (fun _ hk => hk.2)) | (rw [add_block]; exact Kd.own_blk (Kd.R_away HO_7.out (fun _ hk => hk.2))) | (show (Addr.add _ _).block ≠ _; rw [add_block]; exact Kd.own_blk (Kd.R_away HO_7.out (fun _ hk => hk.2))) | (dsimp only; exact Kd.own_blk (Kd.R_away HO_7.out (fun _ hk => hk.2)))) _).trans (hHeld.1)))), ((cell_far (p := ⟨gb352, _, none⟩) (by first | exact Kd.own_blk (Kd.R_away HO_7.out (fun _ hk => hk.2)) | (rw [add_block]; exact Kd.own_blk (Kd.R_away HO_7.out (fun _ hk => hk.2))) | (show (Addr.add _ _).block ≠ _; rw [add_block]; exact Kd.own_blk (Kd.R_away HO_7.out (fun _ hk => hk.2))) | (dsimp only; exact Kd.own_blk (Kd.R_away HO_7.out (fun _ hk => hk.2)))) _).trans (((cell_far (p := ⟨gb352, _, none⟩) (by first | exact Kd.own_blk (Kd.R_away HO_7.out (fun _ hk => hk.2)) | (rw [add_block]; exact Kd.own_blk (Kd.R_away HO_7.out (fun _ hk => hk.2))) | (show (Addr.add _ _).block ≠ _; rw [add_block]; exact Kd.own_blk (Kd.R_away HO_7.out (fun _ hk => hk.2))) | (dsimp only; exact Kd.own_blk (Kd.R_away HO_7.out (fun _ hk => hk.2)))) _).trans (hHeld.2.1)))), ((cell_far (p := ⟨gb352, _, none⟩) (by first | exact Kd.own_blk (Kd.R_away HO_7.out (fun _ hk => hk.2)) | (rw [add_block]; exact Kd.own_blk (Kd.R_away HO_7.out (fun _ hk => hk.2))) | (show (Addr.add _ _).block ≠ _; rw [add_block]; exact Kd.own_blk (Kd.R_away HO_7.out (fun _ hk => hk.2))) | (dsimp only; exact Kd.own_blk (Kd.R_away HO_7.out (fun _ hk => hk.2)))) _).trans (((cell_far (p := ⟨gb352, _, none⟩) (by first | exact Kd.own_blk (Kd.R_away HO_7.out (fun _ hk => hk.2)) | (rw [add_block]; exact Kd.own_blk (Kd.R_away HO_7.out (fun _ hk => hk.2))) | (show (Addr.add _ _).block ≠ _; rw [add_block]; exact Kd.own_blk (Kd.R_away HO_7.out (fun _ hk => hk.2))) | (dsimp only; exact Kd.own_blk (Kd.R_away HO_7.out (fun _ hk => hk.2)))) _).trans (hHeld.2.2.1)))), ((cell_far (p := ⟨gb352, _, none⟩) (by first | exact Kd.own_blk (Kd.R_away HO_7.out (fun _ hk => hk.2)) | (rw [add_block]; exact Kd.own_blk (Kd.R_away HO_7.out (fun _ hk => hk.2))) | (show (Addr.add _ _).block ≠ _; rw [add_block]; exact Kd.own_blk (Kd.R_away HO_7.out (fun _ hk => hk.2))) | (dsimp only; exact Kd.own_blk (Kd.R_away HO_7.out (fun _ hk => hk.2)))) _).trans (((cell_far (p := ⟨gb352, _, none⟩) (by first | exact Kd.own_blk (Kd.R_away HO_7.out (fun _ hk => hk.2)) | (rw [add_block]; exact Kd.own_blk (Kd.R_away HO_7.out (fun _ hk => hk.2))) | (show (Addr.add _ _).block ≠ _; rw [add_block]; exact Kd.own_blk (Kd.R_away HO_7.out (fun _ hk => hk.2))) | (dsimp only; exact Kd.own_blk (Kd.R_away HO_7.out (fun _ hk => hk.2)))) _).trans (hHeld.2.2.2))))⟩ (fun hHeld => ?_)
           clear hK K
           refine done_ (done_of HT_.out (by kernel_rfl)) ?_
           have hnb41 := NB351_342.out
           have hnc41 := NB342_351.out
           have hnb42 := NB351_352.out
           have hnc42 := NB352_351.out
           have hcz43_0 : w36.cell? ⟨gb351, 0, none⟩ = some (.int .i64 0) := (blk_cell BK351.out 0).trans rfl
           have hcz43_1 : w36.cell? ⟨gb351, 1, none⟩ = some (.int .i64 0) := (blk_cell BK351.out 1).trans rfl
           have hfz43_0 := blk_frozen BK351.out 0
           have hfz43_1 := blk_frozen BK351.out 1
           have hnb44 := NB352_342.out
           have hnc44 := NB342_352.out
           have hcz45_0 : w36.cell? ⟨gb352, 0, none⟩ = some (.int .i64 0) := (blk_cell BK352.out 0).trans rfl
           have hcz45_1 : w36.cell? ⟨gb352, 1, none⟩ = some (.int .i64 0) := (blk_cell BK352.out 1).trans rfl
           have hfz45_0 := blk_frozen BK352.out 0
           have hfz45_1 := blk_frozen BK352.out 1
           try go_wp2
           go_roundg k1
           case measure => have := HK1.out; omega
           case rel => exact ⟨(wrap64 (x8_1 + 1)), (by first | rfl | (simp; done) | (simp [*]; done)), H', ⟨by have := HK1.out; omega⟩, ⟨by (with_reducible repeat (first | apply Kd.R_alloc | apply Kd.R_drewN | apply Kd.R_drew)); exact Kd.R_mono (Kd.R_far (p := ⟨gb352, 1, none⟩) (Kd.R_far (p := ⟨gb352, 0, none⟩) (Kd.R_far (p := ⟨gb351, 1, none⟩) (Kd.R_far (p := ⟨gb351, 0, none⟩) (Kd.R_mono (Kd.R_mono HO_7.out (fun k_ hk => (⟨hk, hk.1⟩ : _ ∧ k_ ≠ gb351))) (fun k_ hk => (⟨hk, hk.1.2⟩ : _ ∧ k_ ≠ gb352))) (fun _ hk => hk.1.2) (.int .i64 ((rd_T34 t345 (ji11)).f0))) (fun _ hk => hk.1.2) (.int .i64 ((rd_T34 t345 (ji11)).f1))) (fun _ hk => hk.2) (.int .i64 ((rd_T34 t345 x8_1).f0))) (fun _ hk => hk.2) (.int .i64 ((rd_T34 t345 x8_1).f1))) (fun _ hk => trivial)⟩, ⟨by (with_reducible repeat (first | refine blk_drewN ?_ _ | refine blk_drew ?_ | refine blk_alloc ?_ _)); refine blk_far ?_ NB342_352.out _; (with_reducible repeat (first | refine blk_drewN ?_ _ | refine blk_drew ?_ | refine blk_alloc ?_ _)); refine blk_far ?_ NB342_352.out _; (with_reducible repeat (first | refine blk_drewN ?_ _ | refine blk_drew ?_ | refine blk_alloc ?_ _)); refine blk_far ?_ NB342_351.out _; (with_reducible repeat (first | refine blk_drewN ?_ _ | refine blk_drew ?_ | refine blk_alloc ?_ _)); refine blk_far ?_ NB342_351.out _; (with_reducible repeat (first | refine blk_drewN ?_ _ | refine blk_drew ?_ | refine blk_alloc ?_ _)); exact BK342.out⟩, ⟨by repeat (first | (with_reducible first | exact HB.out | apply below_alloc | apply pw_below_drewN | apply below_drew1 | refine below_set ?_ GE342.out | refine below_set ?_ GE351.out | refine below_set ?_ GE352.out) | exact HB.out)⟩⟩
         ·rw [if_neg c15] at H
          have c15b0 : decide (((rd_T34 t345 (ji11)).f0) < a1) = false := decide_eq_false c15
          clear c15
          have H' := Aside0.mk H
          clear H
          obtain ⟨Ao46, co46, eo46⟩ := Kd.R_slice HO_7.out
          subst eo46
          try go_wp2
          have n0_ := Aside0.mk (Kd.R_drew HO_7.out)
          have n1_ := Aside0.mk (blk_drew BK342.out)
          have n2_ := Aside0.mk (below_drew1 HB.out)
          clear HO_7
          clear BK342
          clear HB
          have HO_7 := n0_
          have BK342 := n1_
          have HB := n2_
          clear n0_ n1_ n2_
          have p349 : 0 ≤ ((ji11) : Int) := of_decide_eq_true (by first | (with_reducible assumption) | assumption)
          have q349 : (ji11) < (t345.length : Int) := of_decide_eq_true (by first | (with_reducible assumption) | assumption)
          obtain ⟨ad349, e349, hx349_0, hx349_1⟩ := at_T34 (Kd.R_reads' HO_7.out).2.2 (ji11) p349 q349
          cases e349
          replace p349 := eq_true p349
          replace q349 := eq_true q349
          have p350 : 0 ≤ (x8_1 : Int) := of_decide_eq_true (by first | (with_reducible assumption) | assumption)
          have q350 : x8_1 < (t345.length : Int) := of_decide_eq_true (by first | (with_reducible assumption) | assumption)
          obtain ⟨ad350, e350, hx350_0, hx350_1⟩ := at_T34 (Kd.R_reads' HO_7.out).2.2 x8_1 p350 q350
          obtain rfl : ad349 = ad350 := (by injection e350)
          replace p350 := eq_true p350
          replace q350 := eq_true q350
          refine start_ (n := 13) (S := fun w' => w'.cell? (ad349.add (((ji11)).toNat * 2)) = some (.int .i64 ((rd_T34 t345 (ji11)).f0)) ∧ w'.cell? ⟨(ad349.add (((ji11)).toNat * 2)).block, (ad349.add (((ji11)).toNat * 2)).off + 1, none⟩ = some (.int .i64 ((rd_T34 t345 (ji11)).f1)) ∧ w'.cell? (ad349.add ((x8_1).toNat * 2)) = some (.int .i64 ((rd_T34 t345 x8_1).f0)) ∧ w'.cell? ⟨(ad349.add ((x8_1).toNat * 2)).block, (ad349.add ((x8_1).toNat * 2)).off + 1, none⟩ = some (.int .i64 ((rd_T34 t345 x8_1).f1))) (ds := []) #[false, false, false, false, false, false, false, false, false, false, false, false, false] (by kernel_rfl) rfl rfl ⟨hx349_0, hx349_1, hx350_0, hx350_1⟩ (fun hHeld => ?_); refine with_tabW assessorref51_parts.tab15 assessorref51_parts.bits15 (fun HT_ HW_ => ?_)
          generalize wr.drew = w47 at HO_7 BK342 HB hx349_0 hx349_1 hx350_0 hx350_1 hHeld ⊢
          refine pure_ (i := 0) (N := some 47) (v := ?_) (a' := ?_) #[true, false, false, false, false, false, false, false, false, false, false, false, false] rfl rfl (any_of HT_.out (by kernel_rfl)) (fun _ _ _ h => h) (Or.inl ⟨by rfl, ?_⟩) ?_ ?_
          rotate_left
          ·intro w'
           go_simp
           with_reducible rfl
          rotate_left
          ·simp only [Act.put, sA, sZ, sS, i64_w]
           rfl
          refine pure_ (i := 1) (N := some 48) (v := ?_) (a' := ?_) #[true, true, false, false, false, false, false, false, false, false, false, false, false] rfl rfl (any_of HT_.out (by kernel_rfl)) (fun _ _ _ h => h) (Or.inl ⟨by rfl, ?_⟩) ?_ ?_
          rotate_left
          ·intro w'
           go_simp
           with_reducible rfl
          rotate_left
          ·simp only [Act.put, sA, sZ, sS, i64_w]
           rfl
          refine pure_ (i := 2) (N := some 49) (v := ?_) (a' := ?_) #[true, true, true, false, false, false, false, false, false, false, false, false, false] rfl rfl (any_of HT_.out (by kernel_rfl)) (fun _ _ _ h => h) (Or.inl ⟨by rfl, ?_⟩) ?_ ?_
          rotate_left
          ·intro w'
           go_simp
           with_reducible rfl
          rotate_left
          ·simp only [Act.put, sA, sZ, sS, i64_w]
           rfl
          refine pure_ (i := 3) (N := some 50) (v := ?_) (a' := ?_) #[true, true, true, true, false, false, false, false, false, false, false, false, false] rfl rfl (any_of HT_.out (by kernel_rfl)) (fun _ _ _ h => h) (Or.inl ⟨by rfl, ?_⟩) ?_ ?_
          rotate_left
          ·intro w'
           go_simp
           with_reducible rfl
          rotate_left
          ·simp only [Act.put, sA, sZ, sS, i64_w]
           rfl
          refine pure_ (i := 5) (N := some 52) (v := ?_) (a' := ?_) #[true, true, true, true, false, true, false, false, false, false, false, false, false] rfl rfl (any_of HT_.out (by kernel_rfl)) (fun _ _ _ h => h) (Or.inl ⟨by rfl, ?_⟩) ?_ ?_
          rotate_left
          ·intro w'
           go_simp
           with_reducible rfl
          rotate_left
          ·simp only [Act.put, sA, sZ, sS, i64_w]
           rfl
          refine pure_ (i := 6) (N := some 53) (v := ?_) (a' := ?_) #[true, true, true, true, false, true, true, false, false, false, false, false, false] rfl rfl (any_of HT_.out (by kernel_rfl)) (fun _ _ _ h => h) (Or.inl ⟨by rfl, ?_⟩) ?_ ?_
          rotate_left
          ·intro w'
           go_simp
           with_reducible rfl
          rotate_left
          ·simp only [Act.put, sA, sZ, sS, i64_w]
           rfl
          refine pure_ (i := 7) (N := some 54) (v := ?_) (a' := ?_) #[true, true, true, true, false, true, true, true, false, false, false, false, false] rfl rfl (any_of HT_.out (by kernel_rfl)) (fun _ _ _ h => h) (Or.inl ⟨by rfl, ?_⟩) ?_ ?_
          rotate_left
          ·intro w'
           go_simp
           with_reducible rfl
          rotate_left
          ·simp only [Act.put, sA, sZ, sS, i64_w]
           rfl
          refine take_ (i := 4) (N := some 51) (v := ?_) (a' := ?_) #[true, true, true, true, true, true, true, true, false, false, false, false, false] rfl rfl (take_ofW HT_.out HW_.out (by kernel_rfl)) (fun _ _ _ h => h) (Or.inl ⟨by rfl, ?_⟩) hHeld ?_ ?_
          rotate_left
          ·rintro w' ⟨s0, s1, s2, s3⟩
           go_simp
           with_reducible rfl
          rotate_left
          ·simp only [Act.put, sA, sZ, sS, i64_w]
           rfl
          refine take_ (i := 8) (N := some 55) (v := ?_) (a' := ?_) #[true, true, true, true, true, true, true, true, true, false, false, false, false] rfl rfl (take_ofW HT_.out HW_.out (by kernel_rfl)) (fun _ _ _ h => h) (Or.inl ⟨by rfl, ?_⟩) hHeld ?_ ?_
          rotate_left
          ·rintro w' ⟨s0, s1, s2, s3⟩
           go_simp
           with_reducible rfl
          rotate_left
          ·simp only [Act.put, sA, sZ, sS, i64_w]
           rfl
          refine join_ (σ := Nat × Nat) 2 #[true, true, true, true, true, true, true, true, true, true, true, false, false] (fun s_ => [(9, .pointer (some ⟨s_.1, 0, none⟩)), (10, .pointer (some ⟨s_.2, 0, none⟩))]) (fun s_ w' => (w'.cell? (ad349.add (((ji11)).toNat * 2)) = some (.int .i64 ((rd_T34 t345 (ji11)).f0)) ∧ w'.cell? ⟨(ad349.add (((ji11)).toNat * 2)).block, (ad349.add (((ji11)).toNat * 2)).off + 1, none⟩ = some (.int .i64 ((rd_T34 t345 (ji11)).f1)) ∧ w'.cell? (ad349.add ((x8_1).toNat * 2)) = some (.int .i64 ((rd_T34 t345 x8_1).f0)) ∧ w'.cell? ⟨(ad349.add ((x8_1).toNat * 2)).block, (ad349.add ((x8_1).toNat * 2)).off + 1, none⟩ = some (.int .i64 ((rd_T34 t345 x8_1).f1))) ∧ (Kd.R k34 34 w' w.heap.size (fun k_ => k_ ≠ s_.1 ∧ k_ ≠ s_.2) (.slice (some ad349) t345.length co46) t345) ∧ (w'.heap[gb342]? = some (.cells #[.int .i64 a0_0, .int .i64 a0_1, .bool true, .slice A0_3 l0_3.length c0_3] 24 (0, 0))) ∧ (w'.heap[s_.1]? = some (.cells #[.int .i64 0, .int .i64 0] 34 (0, 0))) ∧ (w'.heap[s_.2]? = some (.cells #[.int .i64 0, .int .i64 0] 34 (0, 0))) ∧ (w.heap.size ≤ s_.1) ∧ (w.heap.size ≤ s_.1) ∧ (gb342 ≠ s_.1) ∧ (s_.1 ≠ gb342) ∧ (s_.2 ≠ s_.1) ∧ (s_.1 ≠ s_.2) ∧ (w.heap.size ≤ s_.2) ∧ (w.heap.size ≤ s_.2) ∧ (gb342 ≠ s_.2) ∧ (s_.2 ≠ gb342) ∧ (Below w.heap.size w w')) ?_ ?_
          rotate_left
          ·intro hCont
           refine two_ (i := 9) (j := 10) (Ni := some 9) (Nj := some 10) #[true, true, true, true, true, true, true, true, true, true, false, false, false] #[true, true, true, true, true, true, true, true, true, false, true, false, false] rfl rfl rfl rfl (two_of HT_.out (by kernel_rfl)) (by decide) (by decide) (fun K hK => ?_) (fun K hK => ?_)
           ·skip
            refine box_step ?hg (N := 9) ?hd (cs := #[.int .i64 0, .int .i64 0]) (t := 34) ?hr ?_; (case hd => rfl); (case hg => rfl); (case hr => first | (go_simp; done) | (go_simp; rfl))
            intro gb351 hg w48 hbox hb
            have HS0_ := (hb.cell (World.block_lt_of_cell? _ _ (hHeld.1))).trans (hHeld.1)
            have HS1_ := (hb.cell (World.block_lt_of_cell? _ _ (hHeld.2.1))).trans (hHeld.2.1)
            have HS2_ := (hb.cell (World.block_lt_of_cell? _ _ (hHeld.2.2.1))).trans (hHeld.2.2.1)
            have HS3_ := (hb.cell (World.block_lt_of_cell? _ _ (hHeld.2.2.2))).trans (hHeld.2.2.2)
            have n0_ := Aside0.mk (Kd.R_below (Kd.R_elderB (by (with_reducible repeat (first | apply Kd.R_alloc | apply Kd.R_drewN | apply Kd.R_drew)); exact HO_7.out) gb351 (Nat.le_of_eq hg.symm)) hb)
            have n1_ := Aside0.mk (blk_below (g := gb342) (o := .cells #[.int .i64 a0_0, .int .i64 a0_1, .bool true, .slice A0_3 l0_3.length c0_3] 24 (0, 0)) (by (with_reducible repeat (first | refine blk_drewN ?_ _ | refine blk_drew ?_ | refine blk_alloc ?_ _)); exact BK342.out) hb)
            have n2_ := Aside0.mk (below_step (by repeat (first | (with_reducible first | exact HB.out | apply below_alloc | apply pw_below_drewN | apply below_drew1 | refine below_set ?_ GE342.out) | exact HB.out)) hb)
            have n3_ := Aside0.mk (hbox)
            have n4_ := Aside0.mk ((by rw [hg]; exact (below_size (by repeat (first | (with_reducible first | exact HB.out | apply below_alloc | apply pw_below_drewN | apply below_drew1 | refine below_set ?_ GE342.out) | exact HB.out))) : w.heap.size ≤ gb351))
            have n5_ := Aside0.mk ((by rw [hg]; exact (below_size (by repeat (first | (with_reducible first | exact HB.out | apply below_alloc | apply pw_below_drewN | apply below_drew1 | refine below_set ?_ GE342.out) | exact HB.out))) : w.heap.size ≤ gb351))
            have n6_ := Aside0.mk ((by rw [hg]; exact Nat.ne_of_lt (blk_lt (g := gb342) (o := .cells #[.int .i64 a0_0, .int .i64 a0_1, .bool true, .slice A0_3 l0_3.length c0_3] 24 (0, 0)) (by (with_reducible repeat (first | refine blk_drewN ?_ _ | refine blk_drew ?_ | refine blk_alloc ?_ _)); exact BK342.out)) : gb342 ≠ gb351))
            have n7_ := Aside0.mk ((by rw [hg]; exact Nat.ne_of_gt (blk_lt (g := gb342) (o := .cells #[.int .i64 a0_0, .int .i64 a0_1, .bool true, .slice A0_3 l0_3.length c0_3] 24 (0, 0)) (by (with_reducible repeat (first | refine blk_drewN ?_ _ | refine blk_drew ?_ | refine blk_alloc ?_ _)); exact BK342.out)) : gb351 ≠ gb342))
            clear HO_7
            clear BK342
            clear HB
            have HO_7 := n0_
            have BK342 := n1_
            have HB := n2_
            have BK351 := n3_
            have GW351 := n4_
            have GE351 := n5_
            have NB342_351 := n6_
            have NB351_342 := n7_
            clear n0_ n1_ n2_ n3_ n4_ n5_ n6_ n7_
            clear hb hbox hg
            refine hK.out _ _ ⟨HS0_, HS1_, HS2_, HS3_⟩ (fun hHeld => ?_)
            clear hK K
            refine norm_ (a' := ?_) ?_ ?_
            rotate_left
            ·show Act.put _ (some 9) _ = _
             simp only [Act.put, sA, sZ, sS, i64_w]
             rfl
            refine one_ (i := 10) (N := some 10) #[true, true, true, true, true, true, true, true, true, true, true, false, false] rfl rfl (one_of HT_.out (by kernel_rfl)) (by decide) (fun K hK => ?_)
            refine box_step ?hg (N := 10) ?hd (cs := #[.int .i64 0, .int .i64 0]) (t := 34) ?hr ?_; (case hd => rfl); (case hg => rfl); (case hr => first | (go_simp; done) | (go_simp; rfl))
            intro gb352 hg w49 hbox hb
            have HS0_ := (hb.cell (World.block_lt_of_cell? _ _ (hHeld.1))).trans (hHeld.1)
            have HS1_ := (hb.cell (World.block_lt_of_cell? _ _ (hHeld.2.1))).trans (hHeld.2.1)
            have HS2_ := (hb.cell (World.block_lt_of_cell? _ _ (hHeld.2.2.1))).trans (hHeld.2.2.1)
            have HS3_ := (hb.cell (World.block_lt_of_cell? _ _ (hHeld.2.2.2))).trans (hHeld.2.2.2)
            have n0_ := Aside0.mk (Kd.R_below (Kd.R_elderB (by (with_reducible repeat (first | apply Kd.R_alloc | apply Kd.R_drewN | apply Kd.R_drew)); exact HO_7.out) gb352 (Nat.le_of_eq hg.symm)) hb)
            have n1_ := Aside0.mk (blk_below (g := gb342) (o := .cells #[.int .i64 a0_0, .int .i64 a0_1, .bool true, .slice A0_3 l0_3.length c0_3] 24 (0, 0)) (by (with_reducible repeat (first | refine blk_drewN ?_ _ | refine blk_drew ?_ | refine blk_alloc ?_ _)); exact BK342.out) hb)
            have n2_ := Aside0.mk (blk_below (g := gb351) (o := .cells #[.int .i64 0, .int .i64 0] 34 (0, 0)) (by (with_reducible repeat (first | refine blk_drewN ?_ _ | refine blk_drew ?_ | refine blk_alloc ?_ _)); exact BK351.out) hb)
            have n3_ := Aside0.mk (below_step (by repeat (first | (with_reducible first | exact HB.out | apply below_alloc | apply pw_below_drewN | apply below_drew1 | refine below_set ?_ GE342.out | refine below_set ?_ GE351.out) | exact HB.out)) hb)
            have n4_ := Aside0.mk (hbox)
            have n5_ := Aside0.mk ((by rw [hg]; exact (below_size (by repeat (first | (with_reducible first | exact HB.out | apply below_alloc | apply pw_below_drewN | apply below_drew1 | refine below_set ?_ GE342.out | refine below_set ?_ GE351.out) | exact HB.out))) : w.heap.size ≤ gb352))
            have n6_ := Aside0.mk ((by rw [hg]; exact (below_size (by repeat (first | (with_reducible first | exact HB.out | apply below_alloc | apply pw_below_drewN | apply below_drew1 | refine below_set ?_ GE342.out | refine below_set ?_ GE351.out) | exact HB.out))) : w.heap.size ≤ gb352))
            have n7_ := Aside0.mk ((by rw [hg]; exact Nat.ne_of_lt (blk_lt (g := gb342) (o := .cells #[.int .i64 a0_0, .int .i64 a0_1, .bool true, .slice A0_3 l0_3.length c0_3] 24 (0, 0)) (by (with_reducible repeat (first | refine blk_drewN ?_ _ | refine blk_drew ?_ | refine blk_alloc ?_ _)); exact BK342.out)) : gb342 ≠ gb352))
            have n8_ := Aside0.mk ((by rw [hg]; exact Nat.ne_of_gt (blk_lt (g := gb342) (o := .cells #[.int .i64 a0_0, .int .i64 a0_1, .bool true, .slice A0_3 l0_3.length c0_3] 24 (0, 0)) (by (with_reducible repeat (first | refine blk_drewN ?_ _ | refine blk_drew ?_ | refine blk_alloc ?_ _)); exact BK342.out)) : gb352 ≠ gb342))
            have n9_ := Aside0.mk ((by rw [hg]; exact Nat.ne_of_lt (blk_lt (g := gb351) (o := .cells #[.int .i64 0, .int .i64 0] 34 (0, 0)) (by (with_reducible repeat (first | refine blk_drewN ?_ _ | refine blk_drew ?_ | refine blk_alloc ?_ _)); exact BK351.out)) : gb351 ≠ gb352))
            have n10_ := Aside0.mk ((by rw [hg]; exact Nat.ne_of_gt (blk_lt (g := gb351) (o := .cells #[.int .i64 0, .int .i64 0] 34 (0, 0)) (by (with_reducible repeat (first | refine blk_drewN ?_ _ | refine blk_drew ?_ | refine blk_alloc ?_ _)); exact BK351.out)) : gb352 ≠ gb351))
            clear HO_7
            clear BK342
            clear BK351
            clear HB
            have HO_7 := n0_
            have BK342 := n1_
            have BK351 := n2_
            have HB := n3_
            have BK352 := n4_
            have GW352 := n5_
            have GE352 := n6_
            have NB342_352 := n7_
            have NB352_342 := n8_
            have NB351_352 := n9_
            have NB352_351 := n10_
            clear n0_ n1_ n2_ n3_ n4_ n5_ n6_ n7_ n8_ n9_ n10_
            clear hb hbox hg
            refine hK.out _ _ ⟨HS0_, HS1_, HS2_, HS3_⟩ (fun hHeld => ?_)
            clear hK K
            refine norm_ (a' := ?_) ?_ ?_
            rotate_left
            ·show Act.put _ (some 10) _ = _
             simp only [Act.put, sA, sZ, sS, i64_w]
             rfl
            exact norm_ (by simp only [putAll, Act.put, List.setIfInBounds_toArray, List.set_cons_zero, List.set_cons_succ]) (hCont (gb351, gb352) _ ⟨hHeld, (by (with_reducible repeat (first | apply Kd.R_alloc | apply Kd.R_drewN | apply Kd.R_drew)); exact Kd.R_mono HO_7.out (fun _ hk => ⟨hk.1.2, hk.2⟩)), (by (with_reducible repeat (first | refine blk_drewN ?_ _ | refine blk_drew ?_ | refine blk_alloc ?_ _)); exact BK342.out), (by (with_reducible repeat (first | refine blk_drewN ?_ _ | refine blk_drew ?_ | refine blk_alloc ?_ _)); exact BK351.out), (by (with_reducible repeat (first | refine blk_drewN ?_ _ | refine blk_drew ?_ | refine blk_alloc ?_ _)); exact BK352.out), GW351.out, GE351.out, NB342_351.out, NB351_342.out, NB352_351.out, NB351_352.out, GW352.out, GE352.out, NB342_352.out, NB352_342.out, (by repeat (first | (with_reducible first | exact HB.out | apply below_alloc | apply pw_below_drewN | apply below_drew1 | refine below_set ?_ GE342.out | refine below_set ?_ GE351.out | refine below_set ?_ GE352.out) | exact HB.out))⟩)
           ·skip
            refine box_step ?hg (N := 10) ?hd (cs := #[.int .i64 0, .int .i64 0]) (t := 34) ?hr ?_; (case hd => rfl); (case hg => rfl); (case hr => first | (go_simp; done) | (go_simp; rfl))
            intro gb352 hg w48 hbox hb
            have HS0_ := (hb.cell (World.block_lt_of_cell? _ _ (hHeld.1))).trans (hHeld.1)
            have HS1_ := (hb.cell (World.block_lt_of_cell? _ _ (hHeld.2.1))).trans (hHeld.2.1)
            have HS2_ := (hb.cell (World.block_lt_of_cell? _ _ (hHeld.2.2.1))).trans (hHeld.2.2.1)
            have HS3_ := (hb.cell (World.block_lt_of_cell? _ _ (hHeld.2.2.2))).trans (hHeld.2.2.2)
            have n0_ := Aside0.mk (Kd.R_below (Kd.R_elderB (by (with_reducible repeat (first | apply Kd.R_alloc | apply Kd.R_drewN | apply Kd.R_drew)); exact HO_7.out) gb352 (Nat.le_of_eq hg.symm)) hb)
            have n1_ := Aside0.mk (blk_below (g := gb342) (o := .cells #[.int .i64 a0_0, .int .i64 a0_1, .bool true, .slice A0_3 l0_3.length c0_3] 24 (0, 0)) (by (with_reducible repeat (first | refine blk_drewN ?_ _ | refine blk_drew ?_ | refine blk_alloc ?_ _)); exact BK342.out) hb)
            have n2_ := Aside0.mk (below_step (by repeat (first | (with_reducible first | exact HB.out | apply below_alloc | apply pw_below_drewN | apply below_drew1 | refine below_set ?_ GE342.out) | exact HB.out)) hb)
            have n3_ := Aside0.mk (hbox)
            have n4_ := Aside0.mk ((by rw [hg]; exact (below_size (by repeat (first | (with_reducible first | exact HB.out | apply below_alloc | apply pw_below_drewN | apply below_drew1 | refine below_set ?_ GE342.out) | exact HB.out))) : w.heap.size ≤ gb352))
            have n5_ := Aside0.mk ((by rw [hg]; exact (below_size (by repeat (first | (with_reducible first | exact HB.out | apply below_alloc | apply pw_below_drewN | apply below_drew1 | refine below_set ?_ GE342.out) | exact HB.out))) : w.heap.size ≤ gb352))
            have n6_ := Aside0.mk ((by rw [hg]; exact Nat.ne_of_lt (blk_lt (g := gb342) (o := .cells #[.int .i64 a0_0, .int .i64 a0_1, .bool true, .slice A0_3 l0_3.length c0_3] 24 (0, 0)) (by (with_reducible repeat (first | refine blk_drewN ?_ _ | refine blk_drew ?_ | refine blk_alloc ?_ _)); exact BK342.out)) : gb342 ≠ gb352))
            have n7_ := Aside0.mk ((by rw [hg]; exact Nat.ne_of_gt (blk_lt (g := gb342) (o := .cells #[.int .i64 a0_0, .int .i64 a0_1, .bool true, .slice A0_3 l0_3.length c0_3] 24 (0, 0)) (by (with_reducible repeat (first | refine blk_drewN ?_ _ | refine blk_drew ?_ | refine blk_alloc ?_ _)); exact BK342.out)) : gb352 ≠ gb342))
            clear HO_7
            clear BK342
            clear HB
            have HO_7 := n0_
            have BK342 := n1_
            have HB := n2_
            have BK352 := n3_
            have GW352 := n4_
            have GE352 := n5_
            have NB342_352 := n6_
            have NB352_342 := n7_
            clear n0_ n1_ n2_ n3_ n4_ n5_ n6_ n7_
            clear hb hbox hg
            refine hK.out _ _ ⟨HS0_, HS1_, HS2_, HS3_⟩ (fun hHeld => ?_)
            clear hK K
            refine norm_ (a' := ?_) ?_ ?_
            rotate_left
            ·show Act.put _ (some 10) _ = _
             simp only [Act.put, sA, sZ, sS, i64_w]
             rfl
            refine one_ (i := 9) (N := some 9) #[true, true, true, true, true, true, true, true, true, true, true, false, false] rfl rfl (one_of HT_.out (by kernel_rfl)) (by decide) (fun K hK => ?_)
            refine box_step ?hg (N := 9) ?hd (cs := #[.int .i64 0, .int .i64 0]) (t := 34) ?hr ?_; (case hd => rfl); (case hg => rfl); (case hr => first | (go_simp; done) | (go_simp; rfl))
            intro gb351 hg w49 hbox hb
            have HS0_ := (hb.cell (World.block_lt_of_cell? _ _ (hHeld.1))).trans (hHeld.1)
            have HS1_ := (hb.cell (World.block_lt_of_cell? _ _ (hHeld.2.1))).trans (hHeld.2.1)
            have HS2_ := (hb.cell (World.block_lt_of_cell? _ _ (hHeld.2.2.1))).trans (hHeld.2.2.1)
            have HS3_ := (hb.cell (World.block_lt_of_cell? _ _ (hHeld.2.2.2))).trans (hHeld.2.2.2)
            have n0_ := Aside0.mk (Kd.R_below (Kd.R_elderB (by (with_reducible repeat (first | apply Kd.R_alloc | apply Kd.R_drewN | apply Kd.R_drew)); exact HO_7.out) gb351 (Nat.le_of_eq hg.symm)) hb)
            have n1_ := Aside0.mk (blk_below (g := gb342) (o := .cells #[.int .i64 a0_0, .int .i64 a0_1, .bool true, .slice A0_3 l0_3.length c0_3] 24 (0, 0)) (by (with_reducible repeat (first | refine blk_drewN ?_ _ | refine blk_drew ?_ | refine blk_alloc ?_ _)); exact BK342.out) hb)
            have n2_ := Aside0.mk (blk_below (g := gb352) (o := .cells #[.int .i64 0, .int .i64 0] 34 (0, 0)) (by (with_reducible repeat (first | refine blk_drewN ?_ _ | refine blk_drew ?_ | refine blk_alloc ?_ _)); exact BK352.out) hb)
            have n3_ := Aside0.mk (below_step (by repeat (first | (with_reducible first | exact HB.out | apply below_alloc | apply pw_below_drewN | apply below_drew1 | refine below_set ?_ GE342.out | refine below_set ?_ GE352.out) | exact HB.out)) hb)
            have n4_ := Aside0.mk (hbox)
            have n5_ := Aside0.mk ((by rw [hg]; exact (below_size (by repeat (first | (with_reducible first | exact HB.out | apply below_alloc | apply pw_below_drewN | apply below_drew1 | refine below_set ?_ GE342.out | refine below_set ?_ GE352.out) | exact HB.out))) : w.heap.size ≤ gb351))
            have n6_ := Aside0.mk ((by rw [hg]; exact (below_size (by repeat (first | (with_reducible first | exact HB.out | apply below_alloc | apply pw_below_drewN | apply below_drew1 | refine below_set ?_ GE342.out | refine below_set ?_ GE352.out) | exact HB.out))) : w.heap.size ≤ gb351))
            have n7_ := Aside0.mk ((by rw [hg]; exact Nat.ne_of_lt (blk_lt (g := gb342) (o := .cells #[.int .i64 a0_0, .int .i64 a0_1, .bool true, .slice A0_3 l0_3.length c0_3] 24 (0, 0)) (by (with_reducible repeat (first | refine blk_drewN ?_ _ | refine blk_drew ?_ | refine blk_alloc ?_ _)); exact BK342.out)) : gb342 ≠ gb351))
            have n8_ := Aside0.mk ((by rw [hg]; exact Nat.ne_of_gt (blk_lt (g := gb342) (o := .cells #[.int .i64 a0_0, .int .i64 a0_1, .bool true, .slice A0_3 l0_3.length c0_3] 24 (0, 0)) (by (with_reducible repeat (first | refine blk_drewN ?_ _ | refine blk_drew ?_ | refine blk_alloc ?_ _)); exact BK342.out)) : gb351 ≠ gb342))
            have n9_ := Aside0.mk ((by rw [hg]; exact Nat.ne_of_lt (blk_lt (g := gb352) (o := .cells #[.int .i64 0, .int .i64 0] 34 (0, 0)) (by (with_reducible repeat (first | refine blk_drewN ?_ _ | refine blk_drew ?_ | refine blk_alloc ?_ _)); exact BK352.out)) : gb352 ≠ gb351))
            have n10_ := Aside0.mk ((by rw [hg]; exact Nat.ne_of_gt (blk_lt (g := gb352) (o := .cells #[.int .i64 0, .int .i64 0] 34 (0, 0)) (by (with_reducible repeat (first | refine blk_drewN ?_ _ | refine blk_drew ?_ | refine blk_alloc ?_ _)); exact BK352.out)) : gb351 ≠ gb352))
            clear HO_7
            clear BK342
            clear BK352
            clear HB
            have HO_7 := n0_
            have BK342 := n1_
            have BK352 := n2_
            have HB := n3_
            have BK351 := n4_
            have GW351 := n5_
            have GE351 := n6_
            have NB342_351 := n7_
            have NB351_342 := n8_
            have NB352_351 := n9_
            have NB351_352 := n10_
            clear n0_ n1_ n2_ n3_ n4_ n5_ n6_ n7_ n8_ n9_ n10_
            clear hb hbox hg
            refine hK.out _ _ ⟨HS0_, HS1_, HS2_, HS3_⟩ (fun hHeld => ?_)
            clear hK K
            refine norm_ (a' := ?_) ?_ ?_
            rotate_left
            ·show Act.put _ (some 9) _ = _
             simp only [Act.put, sA, sZ, sS, i64_w]
             rfl
            exact norm_ (by simp only [putAll, Act.put, List.setIfInBounds_toArray, List.set_cons_zero, List.set_cons_succ]) (hCont (gb351, gb352) _ ⟨hHeld, (by (with_reducible repeat (first | apply Kd.R_alloc | apply Kd.R_drewN | apply Kd.R_drew)); exact Kd.R_mono HO_7.out (fun _ hk => ⟨hk.2, hk.1.2⟩)), (by (with_reducible repeat (first | refine blk_drewN ?_ _ | refine blk_drew ?_ | refine blk_alloc ?_ _)); exact BK342.out), (by (with_reducible repeat (first | refine blk_drewN ?_ _ | refine blk_drew ?_ | refine blk_alloc ?_ _)); exact BK351.out), (by (with_reducible repeat (first | refine blk_drewN ?_ _ | refine blk_drew ?_ | refine blk_alloc ?_ _)); exact BK352.out), GW351.out, GE351.out, NB342_351.out, NB351_342.out, NB352_351.out, NB351_352.out, GW352.out, GE352.out, NB342_352.out, NB352_342.out, (by repeat (first | (with_reducible first | exact HB.out | apply below_alloc | apply pw_below_drewN | apply below_drew1 | refine below_set ?_ GE342.out | refine below_set ?_ GE352.out | refine below_set ?_ GE351.out) | exact HB.out))⟩)
          rintro ⟨gb351, gb352⟩ w50 ⟨hS_, h0_, h1_, h2_, h3_, h4_, h5_, h6_, h7_, h8_, h9_, h10_, h11_, h12_, h13_, h14_⟩
          have n0_ : Aside0 (Kd.R k34 34 w50 w.heap.size (fun k_ => k_ ≠ gb351 ∧ k_ ≠ gb352) (.slice (some ad349) t345.length co46) t345) := ⟨h0_⟩
          have n1_ : Aside0 (w50.heap[gb342]? = some (.cells #[.int .i64 a0_0, .int .i64 a0_1, .bool true, .slice A0_3 l0_3.length c0_3] 24 (0, 0))) := ⟨h1_⟩
          have n2_ : Aside0 (w50.heap[gb351]? = some (.cells #[.int .i64 0, .int .i64 0] 34 (0, 0))) := ⟨h2_⟩
          have n3_ : Aside0 (w50.heap[gb352]? = some (.cells #[.int .i64 0, .int .i64 0] 34 (0, 0))) := ⟨h3_⟩
          have n4_ : Aside0 (w.heap.size ≤ gb351) := ⟨h4_⟩
          have n5_ : Aside0 (w.heap.size ≤ gb351) := ⟨h5_⟩
          have n6_ : Aside0 (gb342 ≠ gb351) := ⟨h6_⟩
          have n7_ : Aside0 (gb351 ≠ gb342) := ⟨h7_⟩
          have n8_ : Aside0 (gb352 ≠ gb351) := ⟨h8_⟩
          have n9_ : Aside0 (gb351 ≠ gb352) := ⟨h9_⟩
          have n10_ : Aside0 (w.heap.size ≤ gb352) := ⟨h10_⟩
          have n11_ : Aside0 (w.heap.size ≤ gb352) := ⟨h11_⟩
          have n12_ : Aside0 (gb342 ≠ gb352) := ⟨h12_⟩
          have n13_ : Aside0 (gb352 ≠ gb342) := ⟨h13_⟩
          have n14_ : Aside0 (Below w.heap.size w w50) := ⟨h14_⟩
          clear HO_7
          clear BK342
          clear HB
          clear h0_ h1_ h2_ h3_ h4_ h5_ h6_ h7_ h8_ h9_ h10_ h11_ h12_ h13_ h14_
          have HO_7 := n0_
          have BK342 := n1_
          have BK351 := n2_
          have BK352 := n3_
          have GW351 := n4_
          have GE351 := n5_
          have NB342_351 := n6_
          have NB351_342 := n7_
          have NB352_351 := n8_
          have NB351_352 := n9_
          have GW352 := n10_
          have GE352 := n11_
          have NB342_352 := n12_
          have NB352_342 := n13_
          have HB := n14_
          clear n0_ n1_ n2_ n3_ n4_ n5_ n6_ n7_ n8_ n9_ n10_ n11_ n12_ n13_ n14_
          have hHeld : w50.cell? (ad349.add (((ji11)).toNat * 2)) = some (.int .i64 ((rd_T34 t345 (ji11)).f0)) ∧ w50.cell? ⟨(ad349.add (((ji11)).toNat * 2)).block, (ad349.add (((ji11)).toNat * 2)).off + 1, none⟩ = some (.int .i64 ((rd_T34 t345 (ji11)).f1)) ∧ w50.cell? (ad349.add ((x8_1).toNat * 2)) = some (.int .i64 ((rd_T34 t345 x8_1).f0)) ∧ w50.cell? ⟨(ad349.add ((x8_1).toNat * 2)).block, (ad349.add ((x8_1).toNat * 2)).off + 1, none⟩ = some (.int .i64 ((rd_T34 t345 x8_1).f1)) := hS_
          refine norm_ (a' := ?_) ?_ ?_
          rotate_left
          ·simp only [putAll, Act.put, List.setIfInBounds_toArray, List.set_cons_zero, List.set_cons_succ]
           rfl
          refine one_ (i := 11) (N := none) #[true, true, true, true, true, true, true, true, true, true, true, true, false] rfl rfl (one_of HT_.out (by kernel_rfl)) (by decide) (fun K hK => ?_)
          have hs51 : w50.cell? ⟨gb351, 0, none⟩ = some (.int .i64 0) := (blk_cell BK351.out 0).trans rfl
          have hfs51 := blk_frozen BK351.out 0
          have hns51_0 := NB342_351.out
          have hns51_2 := NB352_351.out
          have hms51_0 := NB351_342.out
          have hms51_2 := NB351_352.out
          have hs52 : w50.cell? ⟨gb351, 1, none⟩ = some (.int .i64 0) := (blk_cell BK351.out 1).trans rfl
          have hfs52 := blk_frozen BK351.out 1
          have hns52_0 := NB342_351.out
          have hns52_2 := NB352_351.out
          have hms52_0 := NB351_342.out
          have hms52_2 := NB351_352.out
          refine skip_ (w1 := ?_) (by rfl) rfl ?_ ?_
          rotate_left
          ·go_simp
           rfl
          refine hK.out _ _ ⟨((cell_far (p := ⟨gb351, _, none⟩) (by first | exact Kd.own_blk (Kd.R_away HO_7.out (fun _ hk => hk.1)) | (rw [add_block]; exact Kd.own_blk (Kd.R_away HO_7.out (fun _ hk => hk.1))) | (show (Addr.add _ _).block ≠ _; rw [add_block]; exact Kd.own_blk (Kd.R_away HO_7.out (fun _ hk => hk.1))) | (dsimp only; exact Kd.own_blk (Kd.R_away HO_7.out (fun _ hk => hk.1)))) _).trans (((cell_far (p := ⟨gb351, _, none⟩) (by first | exact Kd.own_blk (Kd.R_away HO_7.out (fun _ hk => hk.1)) | (rw [add_block]; exact Kd.own_blk (Kd.R_away HO_7.out (fun _ hk => hk.1))) | (show (Addr.add _ _).block ≠ _; rw [add_block]; exact Kd.own_blk (Kd.R_away HO_7.out (fun _ hk => hk.1))) | (dsimp only; exact Kd.own_blk (Kd.R_away HO_7.out (fun _ hk => hk.1)))) _).trans (hHeld.1)))), ((cell_far (p := ⟨gb351, _, none⟩) (by first | exact Kd.own_blk (Kd.R_away HO_7.out (fun _ hk => hk.1)) | (rw [add_block]; exact Kd.own_blk (Kd.R_away HO_7.out (fun _ hk => hk.1))) | (show (Addr.add _ _).block ≠ _; rw [add_block]; exact Kd.own_blk (Kd.R_away HO_7.out (fun _ hk => hk.1))) | (dsimp only; exact Kd.own_blk (Kd.R_away HO_7.out (fun _ hk => hk.1)))) _).trans (((cell_far (p := ⟨gb351, _, none⟩) (by first | exact Kd.own_blk (Kd.R_away HO_7.out (fun _ hk => hk.1)) | (rw [add_block]; exact Kd.own_blk (Kd.R_away HO_7.out (fun _ hk => hk.1))) | (show (Addr.add _ _).block ≠ _; rw [add_block]; exact Kd.own_blk (Kd.R_away HO_7.out (fun _ hk => hk.1))) | (dsimp only; exact Kd.own_blk (Kd.R_away HO_7.out (fun _ hk => hk.1)))) _).trans (hHeld.2.1)))), ((cell_far (p := ⟨gb351, _, none⟩) (by first | exact Kd.own_blk (Kd.R_away HO_7.out (fun _ hk => hk.1)) | (rw [add_block]; exact Kd.own_blk (Kd.R_away HO_7.out (fun _ hk => hk.1))) | (show (Addr.add _ _).block ≠ _; rw [add_block]; exact Kd.own_blk (Kd.R_away HO_7.out (fun _ hk => hk.1))) | (dsimp only; exact Kd.own_blk (Kd.R_away HO_7.out (fun _ hk => hk.1)))) _).trans (((cell_far (p := ⟨gb351, _, none⟩) (by first | exact Kd.own_blk (Kd.R_away HO_7.out (fun _ hk => hk.1)) | (rw [add_block]; exact Kd.own_blk (Kd.R_away HO_7.out (fun _ hk => hk.1))) | (show (Addr.add _ _).block ≠ _; rw [add_block]; exact Kd.own_blk (Kd.R_away HO_7.out (fun _ hk => hk.1))) | (dsimp only; exact Kd.own_blk (Kd.R_away HO_7.out (fun _ hk => hk.1)))) _).trans (hHeld.2.2.1)))), ((cell_far (p := ⟨gb351, _, none⟩) (by first | exact Kd.own_blk (Kd.R_away HO_7.out (fun _ hk => hk.1)) | (rw [add_block]; exact Kd.own_blk (Kd.R_away HO_7.out (fun _ hk => hk.1))) | (show (Addr.add _ _).block ≠ _; rw [add_block]; exact Kd.own_blk (Kd.R_away HO_7.out (fun _ hk => hk.1))) | (dsimp only; exact Kd.own_blk (Kd.R_away HO_7.out (fun _ hk => hk.1)))) _).trans (((cell_far (p := ⟨gb351, _, none⟩) (by first | exact Kd.own_blk (Kd.R_away HO_7.out (fun _ hk => hk.1)) | (rw [add_block]; exact Kd.own_blk (Kd.R_away HO_7.out (fun _ hk => hk.1))) | (show (Addr.add _ _).block ≠ _; rw [add_block]; exact Kd.own_blk (Kd.R_away HO_7.out (fun _ hk => hk.1))) | (dsimp only; exact Kd.own_blk (Kd.R_away HO_7.out (fun _ hk => hk.1)))) _).trans (hHeld.2.2.2))))⟩ (fun hHeld => ?_)
          clear hK K
          refine one_ (i := 12) (N := none) #[true, true, true, true, true, true, true, true, true, true, true, true, true] rfl rfl (one_of HT_.out (by kernel_rfl)) (by decide) (fun K hK => ?_)
          have hs53 : w50.cell? ⟨gb352, 0, none⟩ = some (.int .i64 0) := (blk_cell BK352.out 0).trans rfl
          have hfs53 := blk_frozen BK352.out 0
          have hns53_0 := NB342_352.out
          have hns53_1 := NB351_352.out
          have hms53_0 := NB352_342.out
          have hms53_1 := NB352_351.out
          have hs54 : w50.cell? ⟨gb352, 1, none⟩ = some (.int .i64 0) := (blk_cell BK352.out 1).trans rfl
          have hfs54 := blk_frozen BK352.out 1
          have hns54_0 := NB342_352.out
          have hns54_1 := NB351_352.out
          have hms54_0 := NB352_342.out
          have hms54_1 := NB352_351.out
          refine skip_ (w1 := ?_) (by rfl) rfl ?_ ?_
          rotate_left
          ·go_simp
           rfl
          refine hK.out _ _ ⟨((cell_far (p := ⟨gb352, _, none⟩) (by first | exact Kd.own_blk (Kd.R_away HO_7.out (fun _ hk => hk.2)) | (rw [add_block]; exact Kd.own_blk (Kd.R_away HO_7.out (fun _ hk => hk.2))) | (show (Addr.add _ _).block ≠ _; rw [add_block]; exact Kd.own_blk (Kd.R_away HO_7.out (fun _ hk => hk.2))) | (dsimp only; exact Kd.own_blk (Kd.R_away HO_7.out (fun _ hk => hk.2)))) _).trans (((cell_far (p := ⟨gb352, _, none⟩) (by first | exact Kd.own_blk (Kd.R_away HO_7.out (fun _ hk => hk.2)) | (rw [add_block]; exact Kd.own_blk (Kd.R_away HO_7.out (fun _ hk => hk.2))) | (show (Addr.add _ _).block ≠ _; rw [add_block]; exact Kd.own_blk (Kd.R_away HO_7.out (fun _ hk => hk.2))) | (dsimp only; exact Kd.own_blk (Kd.R_away HO_7.out (fun _ hk => hk.2)))) _).trans (hHeld.1)))), ((cell_far (p := ⟨gb352, _, none⟩) (by first | exact Kd.own_blk (Kd.R_away HO_7.out (fun _ hk => hk.2)) | (rw [add_block]; exact Kd.own_blk (Kd.R_away HO_7.out (fun _ hk => hk.2))) | (show (Addr.add _ _).block ≠ _; rw [add_block]; exact Kd.own_blk (Kd.R_away HO_7.out (fun _ hk => hk.2))) | (dsimp only; exact Kd.own_blk (Kd.R_away HO_7.out (fun _ hk => hk.2)))) _).trans (((cell_far (p := ⟨gb352, _, none⟩) (by first | exact Kd.own_blk (Kd.R_away HO_7.out (fun _ hk => hk.2)) | (rw [add_block]; exact Kd.own_blk (Kd.R_away HO_7.out (fun _ hk => hk.2))) | (show (Addr.add _ _).block ≠ _; rw [add_block]; exact Kd.own_blk (Kd.R_away HO_7.out (fun _ hk => hk.2))) | (dsimp only; exact Kd.own_blk (Kd.R_away HO_7.out (fun _ hk => hk.2)))) _).trans (hHeld.2.1)))), ((cell_far (p := ⟨gb352, _, none⟩) (by first | exact Kd.own_blk (Kd.R_away HO_7.out (fun _ hk => hk.2)) | (rw [add_block]; exact Kd.own_blk (Kd.R_away HO_7.out (fun _ hk => hk.2))) | (show (Addr.add _ _).block ≠ _; rw [add_block]; exact Kd.own_blk (Kd.R_away HO_7.out (fun _ hk => hk.2))) | (dsimp only; exact Kd.own_blk (Kd.R_away HO_7.out (fun _ hk => hk.2)))) _).trans (((cell_far (p := ⟨gb352, _, none⟩) (by first | exact Kd.own_blk (Kd.R_away HO_7.out (fun _ hk => hk.2)) | (rw [add_block]; exact Kd.own_blk (Kd.R_away HO_7.out (fun _ hk => hk.2))) | (show (Addr.add _ _).block ≠ _; rw [add_block]; exact Kd.own_blk (Kd.R_away HO_7.out (fun _ hk => hk.2))) | (dsimp only; exact Kd.own_blk (Kd.R_away HO_7.out (fun _ hk => hk.2)))) _).trans (hHeld.2.2.1)))), ((cell_far (p := ⟨gb352, _, none⟩) (by first | exact Kd.own_blk (Kd.R_away HO_7.out (fun _ hk => hk.2)) | (rw [add_block]; exact Kd.own_blk (Kd.R_away HO_7.out (fun _ hk => hk.2))) | (show (Addr.add _ _).block ≠ _; rw [add_block]; exact Kd.own_blk (Kd.R_away HO_7.out (fun _ hk => hk.2))) | (dsimp only; exact Kd.own_blk (Kd.R_away HO_7.out (fun _ hk => hk.2)))) _).trans (((cell_far (p := ⟨gb352, _, none⟩) (by first | exact Kd.own_blk (Kd.R_away HO_7.out (fun _ hk => hk.2)) | (rw [add_block]; exact Kd.own_blk (Kd.R_away HO_7.out (fun _ hk => hk.2))) | (show (Addr.add _ _).block ≠ _; rw [add_block]; exact Kd.own_blk (Kd.R_away HO_7.out (fun _ hk => hk.2))) | (dsimp only; exact Kd.own_blk (Kd.R_away HO_7.out (fun _ hk => hk.2)))) _).trans (hHeld.2.2.2))))⟩ (fun hHeld => ?_)
          clear hK K
          refine done_ (done_of HT_.out (by kernel_rfl)) ?_
          have hnb55 := NB351_342.out
          have hnc55 := NB342_351.out
          have hnb56 := NB351_352.out
          have hnc56 := NB352_351.out
          have hcz57_0 : w50.cell? ⟨gb351, 0, none⟩ = some (.int .i64 0) := (blk_cell BK351.out 0).trans rfl
          have hcz57_1 : w50.cell? ⟨gb351, 1, none⟩ = some (.int .i64 0) := (blk_cell BK351.out 1).trans rfl
          have hfz57_0 := blk_frozen BK351.out 0
          have hfz57_1 := blk_frozen BK351.out 1
          try go_wp2
          go_roundg k1
          case measure => have := HK1.out; omega
          case rel => exact ⟨(wrap64 (x8_1 + 1)), (by first | rfl | (simp; done) | (simp [*]; done)), H', ⟨by have := HK1.out; omega⟩, ⟨by (with_reducible repeat (first | apply Kd.R_alloc | apply Kd.R_drewN | apply Kd.R_drew)); exact Kd.R_mono (Kd.R_far (p := ⟨gb352, 1, none⟩) (Kd.R_far (p := ⟨gb352, 0, none⟩) (Kd.R_far (p := ⟨gb351, 1, none⟩) (Kd.R_far (p := ⟨gb351, 0, none⟩) (Kd.R_mono (Kd.R_mono HO_7.out (fun k_ hk => (⟨hk, hk.1⟩ : _ ∧ k_ ≠ gb351))) (fun k_ hk => (⟨hk, hk.1.2⟩ : _ ∧ k_ ≠ gb352))) (fun _ hk => hk.1.2) (.int .i64 ((rd_T34 t345 (ji11)).f0))) (fun _ hk => hk.1.2) (.int .i64 ((rd_T34 t345 (ji11)).f1))) (fun _ hk => hk.2) (.int .i64 ((rd_T34 t345 x8_1).f0))) (fun _ hk => hk.2) (.int .i64 ((rd_T34 t345 x8_1).f1))) (fun _ hk => trivial)⟩, ⟨by (with_reducible repeat (first | refine blk_drewN ?_ _ | refine blk_drew ?_ | refine blk_alloc ?_ _)); refine blk_far ?_ NB342_352.out _; (with_reducible repeat (first | refine blk_drewN ?_ _ | refine blk_drew ?_ | refine blk_alloc ?_ _)); refine blk_far ?_ NB342_352.out _; (with_reducible repeat (first | refine blk_drewN ?_ _ | refine blk_drew ?_ | refine blk_alloc ?_ _)); refine blk_far ?_ NB342_351.out _; (with_reducible repeat (first | refine blk_drewN ?_ _ | refine blk_drew ?_ | refine blk_alloc ?_ _)); refine blk_far ?_ NB342_351.out _; (with_reducible repeat (first | refine blk_drewN ?_ _ | refine blk_drew ?_ | refine blk_alloc ?_ _)); exact BK342.out⟩, ⟨by repeat (first | (with_reducible first | exact HB.out | apply below_alloc | apply pw_below_drewN | apply below_drew1 | refine below_set ?_ GE342.out | refine below_set ?_ GE351.out | refine below_set ?_ GE352.out) | exact HB.out)⟩⟩
        ·rw [if_neg c14] at H
         exact absurd H (by simp)
       ·rw [if_neg c13] at H
        exact absurd H (by simp)
      ·rw [if_neg c12] at H
       exact absurd H (by simp)
     ·rw [if_neg c10] at H
      have c10b0 : decide (x8_1 < (t345.length : Int)) = false := decide_eq_false c10
      clear c10
      obtain ⟨ji58, hji58⟩ : ∃ j_ : Int, (wrap64 ((t345.length : Int) - 1)) = j_ := ⟨_, rfl⟩
      replace H : (if 0 ≤ (ji58) then (if (ji58) < (t345.length : Int) then (some (wrap64 (100 * ((rd_T34 t345 (ji58)).f1)))) else (none)) else (none)) = some r := by first | (rw [hji58] at H; exact H) | (simp only [hji58] at H ⊢; exact H)
      have hji58w : (IntKind.i64.wrap ((t345.length : Int) - 1)) = ji58 := (i64_w _).trans hji58
      by_cases c59 : 0 ≤ (ji58)
      ·rw [if_pos c59] at H
       have c59b0 : decide (0 ≤ (ji58)) = true := decide_eq_true c59
       clear c59
       by_cases c60 : (ji58) < (t345.length : Int)
       ·rw [if_pos c60] at H
        have c60b0 : decide ((ji58) < (t345.length : Int)) = true := decide_eq_true c60
        clear c60
        obtain rfl := Option.some.inj H
        obtain ⟨Ao61, co61, eo61⟩ := Kd.R_slice HO_7.out
        subst eo61
        have p348 : 0 ≤ ((ji58) : Int) := of_decide_eq_true (by first | (with_reducible assumption) | assumption)
        have q348 : (ji58) < (t345.length : Int) := of_decide_eq_true (by first | (with_reducible assumption) | assumption)
        obtain ⟨ad348, e348, hx348_0, hx348_1⟩ := at_T34 (Kd.R_reads' HO_7.out).2.2 (ji58) p348 q348
        cases e348
        replace p348 := eq_true p348
        replace q348 := eq_true q348
        go_wp2
        go_ret
        exact ⟨by first | rfl | (simp [errW_none, errW_some] <;> rfl) | (simp only [← hji58]; first | rfl | (simp [errW_none, errW_some] <;> rfl)) | (simp [*, errW_none, errW_some] <;> rfl), by repeat (first | (with_reducible first | exact HB.out | apply below_alloc | apply pw_below_drewN | apply below_drew1 | refine below_set ?_ GE342.out) | exact HB.out)⟩
       ·rw [if_neg c60] at H
        exact absurd H (by simp)
      ·rw [if_neg c59] at H
       exact absurd H (by simp)
  ·replace c5 := Bool.eq_false_iff.mpr c5
   subst c5
   have H1 : (assessorref51_parts.l0 k a1 10000 0 a0_0 a0_1 false l0_3) = some r := by rw [if_neg (show ¬ (false = true) by decide)] at H; exact H
   clear H
   have H := H1
   clear H1
   have H' := Aside0.mk H
   clear H
   go_enter Try.func38, Try.ntmps38
   go_wp2_with (first | ((with_reducible refine gate_dst (N := 2) rfl ?_); refine box_event ?hg (N := 2) ?hd (cs := #[.int .i64 a0_0, .int .i64 a0_1, .bool false, .slice A0_3 l0_3.length c0_3]) (t := 24) ?hr ?_; (case hd => rfl); (case hg => rfl); (case hr => first | (go_simp; done) | (go_simp; rfl)); intro gb342 hg w62 hbox hb; have n0_ := Aside0.mk (below_step (by repeat (first | (with_reducible first | exact HB.out | apply below_alloc | apply pw_below_drewN | apply below_drew1) | exact HB.out)) hb); have n1_ := Aside0.mk (hbox); have n2_ := Aside0.mk ((by rw [hg]; exact (below_size (by repeat (first | (with_reducible first | exact HB.out | apply below_alloc | apply pw_below_drewN | apply below_drew1) | exact HB.out))) : w.heap.size ≤ gb342)); have n3_ := Aside0.mk ((by rw [hg]; exact (below_size (by repeat (first | (with_reducible first | exact HB.out | apply below_alloc | apply pw_below_drewN | apply below_drew1) | exact HB.out))) : w.heap.size ≤ gb342)); clear HB; have HB := n0_; have BK342 := n1_; have GW342 := n2_; have GE342 := n3_; clear n0_ n1_ n2_ n3_; clear hb hbox hg; have hcz63_0 : w62.cell? ⟨gb342, 0, none⟩ = some (.int .i64 a0_0) := (blk_cell BK342.out 0).trans rfl; have hcz63_1 : w62.cell? ⟨gb342, 1, none⟩ = some (.int .i64 a0_1) := (blk_cell BK342.out 1).trans rfl; have hcz63_2 : w62.cell? ⟨gb342, 2, none⟩ = some (.bool false) := (blk_cell BK342.out 2).trans rfl; have hcz63_3 : w62.cell? ⟨gb342, 3, none⟩ = some (.slice A0_3 l0_3.length c0_3) := (blk_cell BK342.out 3).trans rfl; have hfz63_0 := blk_frozen BK342.out 0; have hfz63_1 := blk_frozen BK342.out 1; have hfz63_2 := blk_frozen BK342.out 2; have hfz63_3 := blk_frozen BK342.out 3))
   go_loopg [5, 6] k (fun kq v5 v6 w' => ∃ (x5_1 : Int) (x6_1 : Int), v5 = .int .i64 x5_1 ∧ v6 = .int .i64 x6_1 ∧ Aside0 (assessorref51_parts.l0 kq a1 x5_1 x6_1 a0_0 a0_1 false l0_3 = some r) ∧ Aside0 (kq ≤ k) ∧ Aside0 (w'.heap[gb342]? = some (.cells #[.int .i64 a0_0, .int .i64 a0_1, .bool false, (.slice A0_3 l0_3.length c0_3)] 24 (0, 0))) ∧ Aside0 (Below w.heap.size w w'))
   case atStart => exact ⟨(10000), (0), (by first | rfl | (simp; done) | (simp [*]; done)), (by first | rfl | (simp; done) | (simp [*]; done)), H', ⟨Nat.le_refl _⟩, ⟨by (with_reducible repeat (first | refine blk_drewN ?_ _ | refine blk_drew ?_ | refine blk_alloc ?_ _)); exact BK342.out⟩, ⟨by repeat (first | (with_reducible first | exact HB.out | apply below_alloc | apply pw_below_drewN | apply below_drew1 | refine below_set ?_ GE342.out) | exact HB.out)⟩⟩
   case round =>
    clear H'
    try clear c1
    try clear p2
    try clear c3
    try clear p3
    try clear q3
    try clear hx3
    try clear c4
    try clear c5
    try clear c6
    try clear p6
    try clear c10
    try clear c10b0
    try clear c12
    try clear c13
    try clear c14
    try clear c15
    try clear c15b0
    try clear p34
    try clear q34
    try clear hx34
    try clear p35
    try clear q35
    try clear hx35
    try clear c38
    try clear c41
    try clear c42
    try clear c44
    try clear c55
    try clear c56
    try clear c59
    try clear c59b0
    try clear c60
    try clear c60b0
    try clear hcz43_0
    try clear hcz43_1
    try clear hcz45_0
    try clear hcz45_1
    try clear hcz57_0
    try clear hcz57_1
    try clear hcz63_0
    try clear hcz63_1
    try clear hcz63_2
    try clear hcz63_3
    try clear hfz43_0
    try clear hfz43_1
    try clear hfz45_0
    try clear hfz45_1
    try clear hfz57_0
    try clear hfz57_1
    try clear hfz63_0
    try clear hfz63_1
    try clear hfz63_2
    try clear hfz63_3
    try clear hx348_0
    try clear hx348_1
    try clear hx349_0
    try clear hx349_1
    try clear hx350_0
    try clear hx350_1
    try clear p348
    try clear p349
    try clear p350
    try clear q348
    try clear q349
    try clear q350
    obtain ⟨x5_1, x6_1, rfl, rfl, HA, HK1, BK342, HB⟩ := hrel
    cases gk with
    | zero => exact absurd HA.out (by simp [assessorref51_parts.l0])
    | succ k1 =>
     have H := HA.out
     clear HA
     simp only [assessorref51_parts.l0] at H
     by_cases c64 : x6_1 < (l0_3.length : Int)
     ·rw [if_pos c64] at H
      have c64b0 : decide (x6_1 < (l0_3.length : Int)) = true := decide_eq_true c64
      clear c64
      by_cases c65 : 0 ≤ x6_1
      ·rw [if_pos c65] at H
       have c65b0 : decide (0 ≤ x6_1) = true := decide_eq_true c65
       clear c65
       by_cases c66 : ((rd_T34 l0_3 x6_1).f0) < a1
       ·rw [if_pos c66] at H
        have c66b0 : decide (((rd_T34 l0_3 x6_1).f0) < a1) = true := decide_eq_true c66
        clear c66
        have H' := Aside0.mk H
        clear H
        have hcz67_0 : wr.cell? ⟨gb342, 0, none⟩ = some (.int .i64 a0_0) := (blk_cell BK342.out 0).trans rfl
        have hcz67_1 : wr.cell? ⟨gb342, 1, none⟩ = some (.int .i64 a0_1) := (blk_cell BK342.out 1).trans rfl
        have hcz67_2 : wr.cell? ⟨gb342, 2, none⟩ = some (.bool false) := (blk_cell BK342.out 2).trans rfl
        have hcz67_3 : wr.cell? ⟨gb342, 3, none⟩ = some (.slice A0_3 l0_3.length c0_3) := (blk_cell BK342.out 3).trans rfl
        have hfz67_0 := blk_frozen BK342.out 0
        have hfz67_1 := blk_frozen BK342.out 1
        have hfz67_2 := blk_frozen BK342.out 2
        have hfz67_3 := blk_frozen BK342.out 3
        have p343 : 0 ≤ (x6_1 : Int) := of_decide_eq_true (by first | (with_reducible assumption) | assumption)
        have q343 : x6_1 < (l0_3.length : Int) := of_decide_eq_true (by first | (with_reducible assumption) | assumption)
        obtain ⟨ad343, e343, hx343_0, hx343_1⟩ := at_T34 HR0_3.out x6_1 p343 q343
        cases e343
        replace hx343_0 := (HB.out.cell (World.block_lt_of_cell? w _ hx343_0)).trans hx343_0
        replace hx343_1 := (HB.out.cell (World.block_lt_of_cell? w _ hx343_1)).trans hx343_1
        replace p343 := eq_true p343
        replace q343 := eq_true q343
        have p344 : 0 ≤ (x6_1 : Int) := of_decide_eq_true (by first | (with_reducible assumption) | assumption)
        have q344 : x6_1 < (l0_3.length : Int) := of_decide_eq_true (by first | (with_reducible assumption) | assumption)
        obtain ⟨ad344, e344, hx344_0, hx344_1⟩ := at_T34 HR0_3.out x6_1 p344 q344
        obtain rfl : ad343 = ad344 := (by injection e344)
        replace hx344_0 := (HB.out.cell (World.block_lt_of_cell? w _ hx344_0)).trans hx344_0
        replace hx344_1 := (HB.out.cell (World.block_lt_of_cell? w _ hx344_1)).trans hx344_1
        replace p344 := eq_true p344
        replace q344 := eq_true q344
        go_wp2
        go_roundg k1
        case measure => have := HK1.out; omega
        case rel => exact ⟨(wrap64 (100 * ((rd_T34 l0_3 x6_1).f1))), (wrap64 (x6_1 + 1)), (by first | rfl | (simp; done) | (simp [*]; done)), (by first | rfl | (simp; done) | (simp [*]; done)), H', ⟨by have := HK1.out; omega⟩, ⟨by (with_reducible repeat (first | refine blk_drewN ?_ _ | refine blk_drew ?_ | refine blk_alloc ?_ _)); exact BK342.out⟩, ⟨by repeat (first | (with_reducible first | exact HB.out | apply below_alloc | apply pw_below_drewN | apply below_drew1 | refine below_set ?_ GE342.out) | exact HB.out)⟩⟩
       ·rw [if_neg c66] at H
        have c66b0 : decide (((rd_T34 l0_3 x6_1).f0) < a1) = false := decide_eq_false c66
        clear c66
        have H' := Aside0.mk H
        clear H
        have hcz68_0 : wr.cell? ⟨gb342, 0, none⟩ = some (.int .i64 a0_0) := (blk_cell BK342.out 0).trans rfl
        have hcz68_1 : wr.cell? ⟨gb342, 1, none⟩ = some (.int .i64 a0_1) := (blk_cell BK342.out 1).trans rfl
        have hcz68_2 : wr.cell? ⟨gb342, 2, none⟩ = some (.bool false) := (blk_cell BK342.out 2).trans rfl
        have hcz68_3 : wr.cell? ⟨gb342, 3, none⟩ = some (.slice A0_3 l0_3.length c0_3) := (blk_cell BK342.out 3).trans rfl
        have hfz68_0 := blk_frozen BK342.out 0
        have hfz68_1 := blk_frozen BK342.out 1
        have hfz68_2 := blk_frozen BK342.out 2
        have hfz68_3 := blk_frozen BK342.out 3
        have p343 : 0 ≤ (x6_1 : Int) := of_decide_eq_true (by first | (with_reducible assumption) | assumption)
        have q343 : x6_1 < (l0_3.length : Int) := of_decide_eq_true (by first | (with_reducible assumption) | assumption)
        obtain ⟨ad343, e343, hx343_0, hx343_1⟩ := at_T34 HR0_3.out x6_1 p343 q343
        cases e343
        replace hx343_0 := (HB.out.cell (World.block_lt_of_cell? w _ hx343_0)).trans hx343_0
        replace hx343_1 := (HB.out.cell (World.block_lt_of_cell? w _ hx343_1)).trans hx343_1
        replace p343 := eq_true p343
        replace q343 := eq_true q343
        go_wp2
        go_roundg k1
        case measure => have := HK1.out; omega
        case rel => exact ⟨(x5_1), (wrap64 (x6_1 + 1)), (by first | rfl | (simp; done) | (simp [*]; done)), (by first | rfl | (simp; done) | (simp [*]; done)), H', ⟨by have := HK1.out; omega⟩, ⟨by (with_reducible repeat (first | refine blk_drewN ?_ _ | refine blk_drew ?_ | refine blk_alloc ?_ _)); exact BK342.out⟩, ⟨by repeat (first | (with_reducible first | exact HB.out | apply below_alloc | apply pw_below_drewN | apply below_drew1 | refine below_set ?_ GE342.out) | exact HB.out)⟩⟩
      ·rw [if_neg c65] at H
       exact absurd H (by simp)
     ·rw [if_neg c64] at H
      have c64b0 : decide (x6_1 < (l0_3.length : Int)) = false := decide_eq_false c64
      clear c64
      obtain rfl := Option.some.inj H
      have hcz69_0 : wr.cell? ⟨gb342, 0, none⟩ = some (.int .i64 a0_0) := (blk_cell BK342.out 0).trans rfl
      have hcz69_1 : wr.cell? ⟨gb342, 1, none⟩ = some (.int .i64 a0_1) := (blk_cell BK342.out 1).trans rfl
      have hcz69_2 : wr.cell? ⟨gb342, 2, none⟩ = some (.bool false) := (blk_cell BK342.out 2).trans rfl
      have hcz69_3 : wr.cell? ⟨gb342, 3, none⟩ = some (.slice A0_3 l0_3.length c0_3) := (blk_cell BK342.out 3).trans rfl
      have hfz69_0 := blk_frozen BK342.out 0
      have hfz69_1 := blk_frozen BK342.out 1
      have hfz69_2 := blk_frozen BK342.out 2
      have hfz69_3 := blk_frozen BK342.out 3
      go_wp2
      go_ret
      exact ⟨by first | rfl | (simp [errW_none, errW_some] <;> rfl) | (simp [*, errW_none, errW_some] <;> rfl), by repeat (first | (with_reducible first | exact HB.out | apply below_alloc | apply pw_below_drewN | apply below_drew1 | refine below_set ?_ GE342.out) | exact HB.out)⟩

end Go.Proofs.Ytbehhijmcnoeeaa.XA
