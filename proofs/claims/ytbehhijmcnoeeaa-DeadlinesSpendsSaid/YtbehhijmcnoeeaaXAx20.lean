/- The functions of the given Go program that the law reaches, as Lean functions, each with a proof that the machine's call answers so; no conditions beyond the premises written in each. Laid by a program; Lean checks it. -/
import Derived.Test.YtbehhijmcnoeeaaXAx0
import Derived.Test.YtbehhijmcnoeeaaXAx7
import Derived.Test.YtbehhijmcnoeeaaXAx14
namespace Go.Proofs.Ytbehhijmcnoeeaa.XA
open Go.RowKit Go.Proofs.YtbehhijmcnoeeaaW.PrintWords Go.Proofs.YtbehhijmcnoeeaaW.PrintLast Go.Proofs.YtbehhijmcnoeeaaW.PrintMore
attribute [local go_sem] max2_int min2_int max_two min_two max_three min_three max_four min_four   -- for this text's walks alone
set_option linter.unusedVariables false
set_option linter.unusedSimpArgs false

/-! ### assessorlaw51_DeadlinesSpends: function 6 -/
mutual
def assessorlaw51_DeadlinesSpends.l0 : Nat → Int → List Int → Int → Int → Bool → List Int → Int → Int → Option (Bool)
 | 0, _, _, _, _, _, _, _, _ => none
 | k + 1, x1, x5, x6, x7, x8, x24, x25, x26 => if x26 < x25 then (if 0 ≤ x26 then (if x26 < (x24.length : Int) then (if x26 < (x5.length : Int) then (if (rd x5 x26) < 0 then (assessorlaw51_DeadlinesSpends.j1 k x1 x5 x6 x7 x8 x26 (mn (mx (rd x24 x26) 0) 1099511627776) x24 x25 x26 true) else (if (rd x5 x26) > (mn (mx (rd x24 x26) 0) 1099511627776) then (assessorlaw51_DeadlinesSpends.j1 k x1 x5 x6 x7 x8 x26 (mn (mx (rd x24 x26) 0) 1099511627776) x24 x25 x26 true) else (if (rd x5 x26) < (mn (mx (rd x24 x26) 0) 1099511627776) then (assessorlaw51_DeadlinesSpends.j1 k x1 x5 x6 x7 x8 x26 (mn (mx (rd x24 x26) 0) 1099511627776) x24 x25 x26 (!x8)) else (assessorlaw51_DeadlinesSpends.j1 k x1 x5 x6 x7 x8 x26 (mn (mx (rd x24 x26) 0) 1099511627776) x24 x25 x26 false)))) else (none)) else (none)) else (none)) else (some (x7 == (mn x6 (mn (mx x1 0) 1099511627776))))
def assessorlaw51_DeadlinesSpends.j1 : Nat → Int → List Int → Int → Int → Bool → Int → Int → List Int → Int → Int → Bool → Option (Bool)
 | 0, _, _, _, _, _, _, _, _, _, _, _ => none
 | k + 1, x1, x5, x6, x7, x8, x9, x10, x24, x25, x26, x58 => if x58 = true then (none) else (if x8 = true then (if 0 ≤ x9 then (if x9 < (x5.length : Int) then (assessorlaw51_DeadlinesSpends.l0 k x1 x5 (wrap64 (x6 + x10)) (wrap64 ((wrap64 (x7 + x10)) - (rd x5 x9))) ((rd x5 x9) == 0) x24 x25 (wrap64 (x26 + 1))) else (none)) else (none)) else (if 0 ≤ x9 then (if x9 < (x5.length : Int) then (assessorlaw51_DeadlinesSpends.l0 k x1 x5 (wrap64 (x6 + x10)) (wrap64 ((wrap64 (x7 + x10)) - (rd x5 x9))) false x24 x25 (wrap64 (x26 + 1))) else (none)) else (none)))
end
def assessorlaw51_DeadlinesSpends.f (k : Nat) (l0 : List Int) (a1 : Int) : Option (Bool) := (assessorlaw51_awake.f k).bind fun t267 => (if t267 = true then (if (l0.length : Int) > 30 then (some true) else ((deadlines_Spend.f k l0 a1).bind fun t268 => (if (t268.length : Int) = (l0.length : Int) then (assessorlaw51_DeadlinesSpends.l0 k a1 t268 0 0 true l0 (l0.length : Int) 0) else (none)))) else (none))
theorem assessorlaw51_DeadlinesSpends.mono_l : ∀ k, (∀ y0 y1 y2 y3 y4 y5 y6 y7, LeO (assessorlaw51_DeadlinesSpends.l0 k y0 y1 y2 y3 y4 y5 y6 y7) (assessorlaw51_DeadlinesSpends.l0 (k + 1) y0 y1 y2 y3 y4 y5 y6 y7)) ∧ (∀ y0 y1 y2 y3 y4 y5 y6 y7 y8 y9 y10, LeO (assessorlaw51_DeadlinesSpends.j1 k y0 y1 y2 y3 y4 y5 y6 y7 y8 y9 y10) (assessorlaw51_DeadlinesSpends.j1 (k + 1) y0 y1 y2 y3 y4 y5 y6 y7 y8 y9 y10))
 | 0 => ⟨fun _ _ _ _ _ _ _ _ r h => by simp [assessorlaw51_DeadlinesSpends.l0] at h, fun _ _ _ _ _ _ _ _ _ _ _ r h => by simp [assessorlaw51_DeadlinesSpends.j1] at h⟩
 | k + 1 => by
  obtain ⟨ih0, ih1⟩ := assessorlaw51_DeadlinesSpends.mono_l k
  refine ⟨?_, ?_⟩
  ·intro y0 y1 y2 y3 y4 y5 y6 y7
   unfold assessorlaw51_DeadlinesSpends.l0
   repeat' first
   | (with_reducible exact ih0 _ _ _ _ _ _ _ _)
   | (with_reducible exact ih1 _ _ _ _ _ _ _ _ _ _ _)
   | (with_reducible exact assessorlaw51_awake.mono _)
   | (with_reducible exact deadlines_Spend.mono _ _ _)
   | (with_reducible exact LeO.refl _)
   | (with_reducible exact LeO.none _)
   | (with_reducible refine LeO.ite ?_ ?_)
   | (with_reducible refine LeO.bind ?_ (fun _ => ?_))
   | exact ih0 _ _ _ _ _ _ _ _
   | exact ih1 _ _ _ _ _ _ _ _ _ _ _
   | exact assessorlaw51_awake.mono _
   | exact deadlines_Spend.mono _ _ _
   | exact LeO.none _
   | refine LeO.ite ?_ ?_
   | refine LeO.bind ?_ (fun _ => ?_)
  ·intro y0 y1 y2 y3 y4 y5 y6 y7 y8 y9 y10
   unfold assessorlaw51_DeadlinesSpends.j1
   repeat' first
   | (with_reducible exact ih0 _ _ _ _ _ _ _ _)
   | (with_reducible exact ih1 _ _ _ _ _ _ _ _ _ _ _)
   | (with_reducible exact assessorlaw51_awake.mono _)
   | (with_reducible exact deadlines_Spend.mono _ _ _)
   | (with_reducible exact LeO.refl _)
   | (with_reducible exact LeO.none _)
   | (with_reducible refine LeO.ite ?_ ?_)
   | (with_reducible refine LeO.bind ?_ (fun _ => ?_))
   | exact ih0 _ _ _ _ _ _ _ _
   | exact ih1 _ _ _ _ _ _ _ _ _ _ _
   | exact assessorlaw51_awake.mono _
   | exact deadlines_Spend.mono _ _ _
   | exact LeO.none _
   | refine LeO.ite ?_ ?_
   | refine LeO.bind ?_ (fun _ => ?_)
theorem assessorlaw51_DeadlinesSpends.mono : ∀ a0 a1 k, LeO (assessorlaw51_DeadlinesSpends.f k a0 a1) (assessorlaw51_DeadlinesSpends.f (k + 1) a0 a1) := by
 intro a0 a1 k
 obtain ⟨ih0, ih1⟩ := assessorlaw51_DeadlinesSpends.mono_l k
 unfold assessorlaw51_DeadlinesSpends.f
 repeat' first
   | (with_reducible exact ih0 _ _ _ _ _ _ _ _)
   | (with_reducible exact ih1 _ _ _ _ _ _ _ _ _ _ _)
   | (with_reducible exact assessorlaw51_awake.mono _)
   | (with_reducible exact deadlines_Spend.mono _ _ _)
   | (with_reducible exact LeO.refl _)
   | (with_reducible exact LeO.none _)
   | (with_reducible refine LeO.ite ?_ ?_)
   | (with_reducible refine LeO.bind ?_ (fun _ => ?_))
   | exact ih0 _ _ _ _ _ _ _ _
   | exact ih1 _ _ _ _ _ _ _ _ _ _ _
   | exact assessorlaw51_awake.mono _
   | exact deadlines_Spend.mono _ _ _
   | exact LeO.none _
   | refine LeO.ite ?_ ?_
   | refine LeO.bind ?_ (fun _ => ?_)
set_option maxHeartbeats 8000000 in
set_option maxRecDepth 100000 in
theorem assessorlaw51_DeadlinesSpends.calls (k : Nat) (A0 : Option Addr) (c0 : Nat) (l0 : List Int) (a1 : Int) (r : Bool) (w : World) (hr0 : Kd.C (Kd.int .i64) w A0 l0.length l0) (hc0 : l0.length ≤ c0) (h : assessorlaw51_DeadlinesSpends.f k l0 a1 = some r) :
  Calls Try.prog 6 #[.slice A0 l0.length c0, .int .i64 a1] w fun e w' => e = .returned (.bool r) ∧ Below w.heap.size w w' := by
 have HR0 := Aside0.mk hr0
 have HC0 := Aside0.mk hc0
 clear hr0 hc0
 have HB := Aside0.mk (Below.refl w.heap.size w)
 have H : ((assessorlaw51_awake.f k).bind fun t267 => (if t267 = true then (if (l0.length : Int) > 30 then (some true) else ((deadlines_Spend.f k l0 a1).bind fun t268 => (if (t268.length : Int) = (l0.length : Int) then (assessorlaw51_DeadlinesSpends.l0 k a1 t268 0 0 true l0 (l0.length : Int) 0) else (none)))) else (none))) = some r := h
 clear h
 replace H := Option.bind_eq_some_iff.mp H
 obtain ⟨t267, A30, H⟩ := H
 replace H : (if t267 = true then (if (l0.length : Int) > 30 then (some true) else ((deadlines_Spend.f k l0 a1).bind fun t268 => (if (t268.length : Int) = (l0.length : Int) then (assessorlaw51_DeadlinesSpends.l0 k a1 t268 0 0 true l0 (l0.length : Int) 0) else (none)))) else (none)) = some r := H
 have A3 := Aside0.mk A30
 clear A30
 by_cases c4 : t267 = true
 ·subst c4
  have H1 : (if (l0.length : Int) > 30 then (some true) else ((deadlines_Spend.f k l0 a1).bind fun t268 => (if (t268.length : Int) = (l0.length : Int) then (assessorlaw51_DeadlinesSpends.l0 k a1 t268 0 0 true l0 (l0.length : Int) 0) else (none)))) = some r := by rw [if_pos rfl] at H; exact H
  clear H
  have H := H1
  clear H1
  by_cases c5 : (l0.length : Int) > 30
  ·rw [if_pos c5] at H
   have c5b0 : decide (30 < (l0.length : Int)) = true := decide_eq_true c5
   have c5b1 : decide (30 < l0.length) = true := decide_eq_true (by omega)
   clear c5
   obtain rfl := Option.some.inj H
   go_enter Try.func6, Try.ntmps6
   go_wp2_with (first | (go_at_call 10; (with_reducible refine (assessorlaw51_awake.calls k  true _ A3.out).mono ?_); rintro e w6 ⟨rfl, hb⟩; have n0_ := Aside0.mk (below_step (by repeat (first | (with_reducible first | exact HB.out | apply below_alloc | apply pw_below_drewN | apply below_drew1) | exact HB.out)) hb); clear HB; have HB := n0_; clear n0_; (try clear hb); (try clear hb2); (try clear hk); (try clear hi)))
   repeat (go_quiet (first | (go_at_call 10; (with_reducible refine (assessorlaw51_awake.calls k  true _ A3.out).mono ?_); rintro e w6 ⟨rfl, hb⟩; have n0_ := Aside0.mk (below_step (by repeat (first | (with_reducible first | exact HB.out | apply below_alloc | apply pw_below_drewN | apply below_drew1) | exact HB.out)) hb); clear HB; have HB := n0_; clear n0_; (try clear hb); (try clear hb2); (try clear hk); (try clear hi))); try go_wp2_with (first | (go_at_call 10; (with_reducible refine (assessorlaw51_awake.calls k  true _ A3.out).mono ?_); rintro e w6 ⟨rfl, hb⟩; have n0_ := Aside0.mk (below_step (by repeat (first | (with_reducible first | exact HB.out | apply below_alloc | apply pw_below_drewN | apply below_drew1) | exact HB.out)) hb); clear HB; have HB := n0_; clear n0_; (try clear hb); (try clear hb2); (try clear hk); (try clear hi))))
   go_ret
   exact ⟨by first | rfl | (simp [errW_none, errW_some] <;> rfl) | (simp [*, errW_none, errW_some] <;> rfl), by repeat (first | (with_reducible first | exact HB.out | apply below_alloc | apply pw_below_drewN | apply below_drew1) | exact HB.out)⟩
  ·rw [if_neg c5] at H
   have c5b0 : decide (30 < (l0.length : Int)) = false := decide_eq_false c5
   have c5b1 : decide (30 < l0.length) = false := decide_eq_false (by omega)
   clear c5
   replace H := Option.bind_eq_some_iff.mp H
   obtain ⟨t268, A70, H⟩ := H
   replace H : (if (t268.length : Int) = (l0.length : Int) then (assessorlaw51_DeadlinesSpends.l0 k a1 t268 0 0 true l0 (l0.length : Int) 0) else (none)) = some r := H
   have A7 := Aside0.mk A70
   clear A70
   by_cases c8 : (t268.length : Int) = (l0.length : Int)
   ·rw [if_pos c8] at H
    have c8b0 : ((t268.length : Int) == (l0.length : Int)) = true := beq_iff_eq.mpr c8
    have c8b1 : ((t268.length : Int) != (l0.length : Int)) = false := bne_eq_false_iff_eq.mpr c8
    have c8b2 : (t268.length == l0.length) = true := by first | simpa using c8 | (simp at c8 ⊢; omega)
    clear c8
    have H' := Aside0.mk H
    clear H
    go_enter Try.func6, Try.ntmps6
    go_wp2_with (first | (go_at_call 10; (with_reducible refine (assessorlaw51_awake.calls k  true _ A3.out).mono ?_); rintro e w9 ⟨rfl, hb⟩; have n0_ := Aside0.mk (below_step (by repeat (first | (with_reducible first | exact HB.out | apply below_alloc | apply pw_below_drewN | apply below_drew1) | exact HB.out)) hb); clear HB; have HB := n0_; clear n0_; (try clear hb); (try clear hb2); (try clear hk); (try clear hi)) | (go_at_call 21; (with_reducible refine (deadlines_Spend.calls k _ _ l0 a1 t268 _ ?side1 ?side2 A7.out).mono ?_); (case side1 => repeat (first | exact (Kd.C_below HR0.out HB.out) | (with_reducible refine Kd.C_alloc ?_ _) | (with_reducible refine Kd.C_drewN ?_ _) | (with_reducible refine Kd.C_drew ?_))); (case side2 => exact HC0.out); rintro e w10 ⟨v269, rfl, ho0, hb⟩; have n0_ := Aside0.mk (Kd.R_lower ho0 (below_size (by repeat (first | (with_reducible first | exact HB.out | apply below_alloc | apply pw_below_drewN | apply below_drew1) | exact HB.out)))); have n1_ := Aside0.mk (below_step (by repeat (first | (with_reducible first | exact HB.out | apply below_alloc | apply pw_below_drewN | apply below_drew1) | exact HB.out)) hb); clear HB; have HO270 := n0_; have HB := n1_; clear n0_ n1_; (try clear hb); (try clear hb2); (try clear hk); (try clear hi); (try clear ho0); obtain ⟨Ao11, co11, eo11⟩ := Kd.R_slice HO270.out; subst eo11))
    repeat (go_quiet (first | (go_at_call 10; (with_reducible refine (assessorlaw51_awake.calls k  true _ A3.out).mono ?_); rintro e w9 ⟨rfl, hb⟩; have n0_ := Aside0.mk (below_step (by repeat (first | (with_reducible first | exact HB.out | apply below_alloc | apply pw_below_drewN | apply below_drew1) | exact HB.out)) hb); clear HB; have HB := n0_; clear n0_; (try clear hb); (try clear hb2); (try clear hk); (try clear hi)) | (go_at_call 21; (with_reducible refine (deadlines_Spend.calls k _ _ l0 a1 t268 _ ?side1 ?side2 A7.out).mono ?_); (case side1 => repeat (first | exact (Kd.C_below HR0.out HB.out) | (with_reducible refine Kd.C_alloc ?_ _) | (with_reducible refine Kd.C_drewN ?_ _) | (with_reducible refine Kd.C_drew ?_))); (case side2 => exact HC0.out); rintro e w10 ⟨v269, rfl, ho0, hb⟩; have n0_ := Aside0.mk (Kd.R_lower ho0 (below_size (by repeat (first | (with_reducible first | exact HB.out | apply below_alloc | apply pw_below_drewN | apply below_drew1) | exact HB.out)))); have n1_ := Aside0.mk (below_step (by repeat (first | (with_reducible first | exact HB.out | apply below_alloc | apply pw_below_drewN | apply below_drew1) | exact HB.out)) hb); clear HB; have HO270 := n0_; have HB := n1_; clear n0_ n1_; (try clear hb); (try clear hb2); (try clear hk); (try clear hi); (try clear ho0); obtain ⟨Ao11, co11, eo11⟩ := Kd.R_slice HO270.out; subst eo11)); try go_wp2_with (first | (go_at_call 10; (with_reducible refine (assessorlaw51_awake.calls k  true _ A3.out).mono ?_); rintro e w9 ⟨rfl, hb⟩; have n0_ := Aside0.mk (below_step (by repeat (first | (with_reducible first | exact HB.out | apply below_alloc | apply pw_below_drewN | apply below_drew1) | exact HB.out)) hb); clear HB; have HB := n0_; clear n0_; (try clear hb); (try clear hb2); (try clear hk); (try clear hi)) | (go_at_call 21; (with_reducible refine (deadlines_Spend.calls k _ _ l0 a1 t268 _ ?side1 ?side2 A7.out).mono ?_); (case side1 => repeat (first | exact (Kd.C_below HR0.out HB.out) | (with_reducible refine Kd.C_alloc ?_ _) | (with_reducible refine Kd.C_drewN ?_ _) | (with_reducible refine Kd.C_drew ?_))); (case side2 => exact HC0.out); rintro e w10 ⟨v269, rfl, ho0, hb⟩; have n0_ := Aside0.mk (Kd.R_lower ho0 (below_size (by repeat (first | (with_reducible first | exact HB.out | apply below_alloc | apply pw_below_drewN | apply below_drew1) | exact HB.out)))); have n1_ := Aside0.mk (below_step (by repeat (first | (with_reducible first | exact HB.out | apply below_alloc | apply pw_below_drewN | apply below_drew1) | exact HB.out)) hb); clear HB; have HO270 := n0_; have HB := n1_; clear n0_ n1_; (try clear hb); (try clear hb2); (try clear hk); (try clear hi); (try clear ho0); obtain ⟨Ao11, co11, eo11⟩ := Kd.R_slice HO270.out; subst eo11)))
    go_loopg [6, 7, 8, 26] k (fun kq v6 v7 v8 v26 w' => ∃ (x6_1 : Int) (x7_1 : Int) (x8_1 : Bool) (x26_1 : Int), v6 = .int .i64 x6_1 ∧ v7 = .int .i64 x7_1 ∧ v8 = .bool x8_1 ∧ v26 = .int .i64 x26_1 ∧ Aside0 (assessorlaw51_DeadlinesSpends.l0 kq a1 t268 x6_1 x7_1 x8_1 l0 (l0.length : Int) x26_1 = some r) ∧ Aside0 (kq ≤ k) ∧ Aside0 (Kd.R (Kd.int .i64) 3 w' w.heap.size (fun _ => True) (.slice Ao11 t268.length co11) t268) ∧ Aside0 (Below w.heap.size w w'))
    case atStart => exact ⟨(0), (0), (true), (0), (by first | rfl | (simp; done) | (simp [*]; done)), (by first | rfl | (simp; done) | (simp [*]; done)), (by first | rfl | (simp; done) | (simp [*]; done)), (by first | rfl | (simp; done) | (simp [*]; done)), H', ⟨Nat.le_refl _⟩, ⟨by (with_reducible repeat (first | apply Kd.R_alloc | apply Kd.R_drewN | apply Kd.R_drew)); exact HO270.out⟩, ⟨by repeat (first | (with_reducible first | exact HB.out | apply below_alloc | apply pw_below_drewN | apply below_drew1) | exact HB.out)⟩⟩
    case round =>
     clear H'
     try clear p2
     try clear c4
     try clear c5
     try clear c5b0
     try clear c5b1
     try clear c6
     try clear c8
     try clear c8b0
     try clear c8b1
     try clear c8b2
     obtain ⟨x6_1, x7_1, x8_1, x26_1, rfl, rfl, rfl, rfl, HA, HK1, HO_5, HB⟩ := hrel
     cases gk with
     | zero => exact absurd HA.out (by simp [assessorlaw51_DeadlinesSpends.l0])
     | succ k1 =>
      have H := HA.out
      clear HA
      simp only [assessorlaw51_DeadlinesSpends.l0] at H
      by_cases c12 : x26_1 < (l0.length : Int)
      ·rw [if_pos c12] at H
       have c12b0 : decide (x26_1 < (l0.length : Int)) = true := decide_eq_true c12
       clear c12
       by_cases c13 : 0 ≤ x26_1
       ·rw [if_pos c13] at H
        have c13b0 : decide (0 ≤ x26_1) = true := decide_eq_true c13
        clear c13
        by_cases c14 : x26_1 < (l0.length : Int)
        ·rw [if_pos c14] at H
         have c14b0 : decide (x26_1 < (l0.length : Int)) = true := decide_eq_true c14
         clear c14
         obtain ⟨ji15, hji15⟩ : ∃ j_ : Int, (mx (rd l0 x26_1) 0) = j_ := ⟨_, rfl⟩
         replace H : (if x26_1 < (t268.length : Int) then (if (rd t268 x26_1) < 0 then (assessorlaw51_DeadlinesSpends.j1 k1 a1 t268 x6_1 x7_1 x8_1 x26_1 (mn (ji15) 1099511627776) l0 (l0.length : Int) x26_1 true) else (if (rd t268 x26_1) > (mn (ji15) 1099511627776) then (assessorlaw51_DeadlinesSpends.j1 k1 a1 t268 x6_1 x7_1 x8_1 x26_1 (mn (ji15) 1099511627776) l0 (l0.length : Int) x26_1 true) else (if (rd t268 x26_1) < (mn (ji15) 1099511627776) then (assessorlaw51_DeadlinesSpends.j1 k1 a1 t268 x6_1 x7_1 x8_1 x26_1 (mn (ji15) 1099511627776) l0 (l0.length : Int) x26_1 (!x8_1)) else (assessorlaw51_DeadlinesSpends.j1 k1 a1 t268 x6_1 x7_1 x8_1 x26_1 (mn (ji15) 1099511627776) l0 (l0.length : Int) x26_1 false)))) else (none)) = some r := by first | (rw [hji15] at H; exact H) | (simp only [hji15] at H ⊢; exact H)
         have hji15_ : (if (rd l0 x26_1) < 0 then 0 else (rd l0 x26_1)) = ji15 := hji15
         obtain ⟨ji16, hji16⟩ : ∃ j_ : Int, (mn (ji15) 1099511627776) = j_ := ⟨_, rfl⟩
         replace H : (if x26_1 < (t268.length : Int) then (if (rd t268 x26_1) < 0 then (assessorlaw51_DeadlinesSpends.j1 k1 a1 t268 x6_1 x7_1 x8_1 x26_1 ji16 l0 (l0.length : Int) x26_1 true) else (if (rd t268 x26_1) > (ji16) then (assessorlaw51_DeadlinesSpends.j1 k1 a1 t268 x6_1 x7_1 x8_1 x26_1 ji16 l0 (l0.length : Int) x26_1 true) else (if (rd t268 x26_1) < (ji16) then (assessorlaw51_DeadlinesSpends.j1 k1 a1 t268 x6_1 x7_1 x8_1 x26_1 ji16 l0 (l0.length : Int) x26_1 (!x8_1)) else (assessorlaw51_DeadlinesSpends.j1 k1 a1 t268 x6_1 x7_1 x8_1 x26_1 ji16 l0 (l0.length : Int) x26_1 false)))) else (none)) = some r := by first | (rw [hji16] at H; exact H) | (simp only [hji16] at H ⊢; exact H)
         have hji16_ : (if 1099511627776 < (ji15) then 1099511627776 else (ji15)) = ji16 := hji16
         have HC17 := Aside0.mk H
         clear H
         have p271 : 0 ≤ (x26_1 : Int) := of_decide_eq_true (by first | (with_reducible assumption) | assumption)
         have q271 : x26_1 < (l0.length : Int) := of_decide_eq_true (by first | (with_reducible assumption) | assumption)
         obtain ⟨ad271, e271, hx271_0⟩ := Kd.at_int HR0.out x26_1 p271 q271
         cases e271
         replace hx271_0 := (HB.out.cell (World.block_lt_of_cell? w _ hx271_0)).trans hx271_0
         replace p271 := eq_true p271
         replace q271 := eq_true q271
         go_upto_region 13 with (fail)
         repeat (go_quiet (fail); go_upto_region 13 with (fail))
         go_cut [58] (fun v58 wc => ∃ (kq : Nat) (x58_16 : Bool), v58 = .bool x58_16 ∧ Aside0 (assessorlaw51_DeadlinesSpends.j1 kq a1 t268 x6_1 x7_1 x8_1 x26_1 ji16 l0 (l0.length : Int) x26_1 x58_16 = some r) ∧ Aside0 (kq ≤ k1) ∧ Aside0 (Kd.R (Kd.int .i64) 3 wc w.heap.size (fun _ => True) (.slice Ao11 t268.length co11) t268) ∧ Aside0 (Below w.heap.size w wc))
         case first =>
          have H := HC17.out
          clear HC17
          by_cases c18 : x26_1 < (t268.length : Int)
          ·rw [if_pos c18] at H
           have c18b0 : decide (x26_1 < (t268.length : Int)) = true := decide_eq_true c18
           clear c18
           (first | rw [c18b0] | (simp only [i64_w, i32_w]; rw [c18b0]) | skip)
           by_cases c19 : (rd t268 x26_1) < 0
           ·rw [if_pos c19] at H
            have c19b0 : decide ((rd t268 x26_1) < 0) = true := decide_eq_true c19
            clear c19
            have H' := Aside0.mk H
            clear H
            have p272 : 0 ≤ (x26_1 : Int) := of_decide_eq_true (by first | (with_reducible assumption) | assumption)
            have q272 : x26_1 < (t268.length : Int) := of_decide_eq_true (by first | (with_reducible assumption) | assumption)
            obtain ⟨ad272, e272, hx272_0⟩ := Kd.at_int (Kd.R_reads' HO_5.out).2.2 x26_1 p272 q272
            cases e272
            replace p272 := eq_true p272
            replace q272 := eq_true q272
            go_wp2
            repeat (go_quiet (fail); try go_wp2)
            go_meet
            case rel => exact ⟨_, (true), (by first | rfl | (simp; done) | (simp [*]; done)), H', ⟨by have := HK1.out; first | omega | exact Nat.le_refl _⟩, ⟨by (with_reducible repeat (first | apply Kd.R_alloc | apply Kd.R_drewN | apply Kd.R_drew)); exact HO_5.out⟩, ⟨by repeat (first | (with_reducible first | exact HB.out | apply below_alloc | apply pw_below_drewN | apply below_drew1) | exact HB.out)⟩⟩
           ·rw [if_neg c19] at H
            have c19b0 : decide ((rd t268 x26_1) < 0) = false := decide_eq_false c19
            clear c19
            by_cases c20 : (rd t268 x26_1) > (ji16)
            ·rw [if_pos c20] at H
             have c20b0 : decide ((ji16) < (rd t268 x26_1)) = true := decide_eq_true c20
             clear c20
             have H' := Aside0.mk H
             clear H
             have p272 : 0 ≤ (x26_1 : Int) := of_decide_eq_true (by first | (with_reducible assumption) | assumption)
             have q272 : x26_1 < (t268.length : Int) := of_decide_eq_true (by first | (with_reducible assumption) | assumption)
             obtain ⟨ad272, e272, hx272_0⟩ := Kd.at_int (Kd.R_reads' HO_5.out).2.2 x26_1 p272 q272
             cases e272
             replace p272 := eq_true p272
             replace q272 := eq_true q272
             have p273 : 0 ≤ (x26_1 : Int) := of_decide_eq_true (by first | (with_reducible assumption) | assumption)
             have q273 : x26_1 < (t268.length : Int) := of_decide_eq_true (by first | (with_reducible assumption) | assumption)
             obtain ⟨ad273, e273, hx273_0⟩ := Kd.at_int (Kd.R_reads' HO_5.out).2.2 x26_1 p273 q273
             obtain rfl : ad272 = ad273 := (by injection e273)
             replace p273 := eq_true p273
             replace q273 := eq_true q273
             go_wp2
             repeat (go_quiet (fail); try go_wp2)
             go_meet
             case rel => exact ⟨_, (true), (by first | rfl | (simp; done) | (simp [*]; done)), H', ⟨by have := HK1.out; first | omega | exact Nat.le_refl _⟩, ⟨by (with_reducible repeat (first | apply Kd.R_alloc | apply Kd.R_drewN | apply Kd.R_drew)); exact HO_5.out⟩, ⟨by repeat (first | (with_reducible first | exact HB.out | apply below_alloc | apply pw_below_drewN | apply below_drew1) | exact HB.out)⟩⟩
            ·rw [if_neg c20] at H
             have c20b0 : decide ((ji16) < (rd t268 x26_1)) = false := decide_eq_false c20
             clear c20
             by_cases c21 : (rd t268 x26_1) < (ji16)
             ·rw [if_pos c21] at H
              have c21b0 : decide ((rd t268 x26_1) < (ji16)) = true := decide_eq_true c21
              clear c21
              have H' := Aside0.mk H
              clear H
              have p272 : 0 ≤ (x26_1 : Int) := of_decide_eq_true (by first | (with_reducible assumption) | assumption)
              have q272 : x26_1 < (t268.length : Int) := of_decide_eq_true (by first | (with_reducible assumption) | assumption)
              obtain ⟨ad272, e272, hx272_0⟩ := Kd.at_int (Kd.R_reads' HO_5.out).2.2 x26_1 p272 q272
              cases e272
              replace p272 := eq_true p272
              replace q272 := eq_true q272
              have p273 : 0 ≤ (x26_1 : Int) := of_decide_eq_true (by first | (with_reducible assumption) | assumption)
              have q273 : x26_1 < (t268.length : Int) := of_decide_eq_true (by first | (with_reducible assumption) | assumption)
              obtain ⟨ad273, e273, hx273_0⟩ := Kd.at_int (Kd.R_reads' HO_5.out).2.2 x26_1 p273 q273
              obtain rfl : ad272 = ad273 := (by injection e273)
              replace p273 := eq_true p273
              replace q273 := eq_true q273
              have p274 : 0 ≤ (x26_1 : Int) := of_decide_eq_true (by first | (with_reducible assumption) | assumption)
              have q274 : x26_1 < (t268.length : Int) := of_decide_eq_true (by first | (with_reducible assumption) | assumption)
              obtain ⟨ad274, e274, hx274_0⟩ := Kd.at_int (Kd.R_reads' HO_5.out).2.2 x26_1 p274 q274
              obtain rfl : ad272 = ad274 := (by injection e274)
              replace p274 := eq_true p274
              replace q274 := eq_true q274
              go_wp2
              repeat (go_quiet (fail); try go_wp2)
              go_meet
              case rel => exact ⟨_, (!x8_1), (by first | rfl | (simp; done) | (simp [*]; done)), H', ⟨by have := HK1.out; first | omega | exact Nat.le_refl _⟩, ⟨by (with_reducible repeat (first | apply Kd.R_alloc | apply Kd.R_drewN | apply Kd.R_drew)); exact HO_5.out⟩, ⟨by repeat (first | (with_reducible first | exact HB.out | apply below_alloc | apply pw_below_drewN | apply below_drew1) | exact HB.out)⟩⟩
             ·rw [if_neg c21] at H
              have c21b0 : decide ((rd t268 x26_1) < (ji16)) = false := decide_eq_false c21
              clear c21
              have H' := Aside0.mk H
              clear H
              have p272 : 0 ≤ (x26_1 : Int) := of_decide_eq_true (by first | (with_reducible assumption) | assumption)
              have q272 : x26_1 < (t268.length : Int) := of_decide_eq_true (by first | (with_reducible assumption) | assumption)
              obtain ⟨ad272, e272, hx272_0⟩ := Kd.at_int (Kd.R_reads' HO_5.out).2.2 x26_1 p272 q272
              cases e272
              replace p272 := eq_true p272
              replace q272 := eq_true q272
              have p273 : 0 ≤ (x26_1 : Int) := of_decide_eq_true (by first | (with_reducible assumption) | assumption)
              have q273 : x26_1 < (t268.length : Int) := of_decide_eq_true (by first | (with_reducible assumption) | assumption)
              obtain ⟨ad273, e273, hx273_0⟩ := Kd.at_int (Kd.R_reads' HO_5.out).2.2 x26_1 p273 q273
              obtain rfl : ad272 = ad273 := (by injection e273)
              replace p273 := eq_true p273
              replace q273 := eq_true q273
              have p274 : 0 ≤ (x26_1 : Int) := of_decide_eq_true (by first | (with_reducible assumption) | assumption)
              have q274 : x26_1 < (t268.length : Int) := of_decide_eq_true (by first | (with_reducible assumption) | assumption)
              obtain ⟨ad274, e274, hx274_0⟩ := Kd.at_int (Kd.R_reads' HO_5.out).2.2 x26_1 p274 q274
              obtain rfl : ad272 = ad274 := (by injection e274)
              replace p274 := eq_true p274
              replace q274 := eq_true q274
              go_wp2
              repeat (go_quiet (fail); try go_wp2)
              go_meet
              case rel => exact ⟨_, (false), (by first | rfl | (simp; done) | (simp [*]; done)), H', ⟨by have := HK1.out; first | omega | exact Nat.le_refl _⟩, ⟨by (with_reducible repeat (first | apply Kd.R_alloc | apply Kd.R_drewN | apply Kd.R_drew)); exact HO_5.out⟩, ⟨by repeat (first | (with_reducible first | exact HB.out | apply below_alloc | apply pw_below_drewN | apply below_drew1) | exact HB.out)⟩⟩
          ·rw [if_neg c18] at H
           exact absurd H (by simp)
         case rest =>
          clear HC17
          try clear c1
          try clear c2
          try clear p2
          try clear q2
          try clear hx2
          try clear c4
          try clear c5
          try clear c5b0
          try clear c5b1
          try clear c6
          try clear c8
          try clear c8b0
          try clear c8b1
          try clear c8b2
          try clear c12
          try clear c12b0
          try clear c13
          try clear c13b0
          try clear c14
          try clear c14b0
          try clear c18
          try clear c18b0
          try clear c19
          try clear c19b0
          try clear c20
          try clear c20b0
          try clear c21
          try clear c21b0
          try clear hx271_0
          try clear hx272_0
          try clear hx273_0
          try clear hx274_0
          try clear p2
          try clear p271
          try clear p272
          try clear p273
          try clear p274
          try clear q271
          try clear q272
          try clear q273
          try clear q274
          obtain ⟨kq, x58_16, rfl, HA, HJ16, HO_5, HB⟩ := hcut
          cases kq with
          | zero => exact absurd HA.out (by simp [assessorlaw51_DeadlinesSpends.j1])
          | succ kj16 =>
           have H := HA.out
           clear HA
           simp only [assessorlaw51_DeadlinesSpends.j1] at H
           by_cases c22 : x58_16 = true
           ·subst c22
            have H1 : (none) = some r := by rw [if_pos rfl] at H; exact H
            clear H
            have H := H1
            clear H1
            exact absurd H (by simp)
           ·replace c22 := Bool.eq_false_iff.mpr c22
            subst c22
            have H1 : (if x8_1 = true then (if 0 ≤ x26_1 then (if x26_1 < (t268.length : Int) then (assessorlaw51_DeadlinesSpends.l0 kj16 a1 t268 (wrap64 (x6_1 + ji16)) (wrap64 ((wrap64 (x7_1 + ji16)) - (rd t268 x26_1))) ((rd t268 x26_1) == 0) l0 (l0.length : Int) (wrap64 (x26_1 + 1))) else (none)) else (none)) else (if 0 ≤ x26_1 then (if x26_1 < (t268.length : Int) then (assessorlaw51_DeadlinesSpends.l0 kj16 a1 t268 (wrap64 (x6_1 + ji16)) (wrap64 ((wrap64 (x7_1 + ji16)) - (rd t268 x26_1))) false l0 (l0.length : Int) (wrap64 (x26_1 + 1))) else (none)) else (none))) = some r := by rw [if_neg (show ¬ (false = true) by decide)] at H; exact H
            clear H
            have H := H1
            clear H1
            by_cases c23 : x8_1 = true
            ·subst c23
             have H1 : (if 0 ≤ x26_1 then (if x26_1 < (t268.length : Int) then (assessorlaw51_DeadlinesSpends.l0 kj16 a1 t268 (wrap64 (x6_1 + ji16)) (wrap64 ((wrap64 (x7_1 + ji16)) - (rd t268 x26_1))) ((rd t268 x26_1) == 0) l0 (l0.length : Int) (wrap64 (x26_1 + 1))) else (none)) else (none)) = some r := by rw [if_pos rfl] at H; exact H
             clear H
             have H := H1
             clear H1
             by_cases c24 : 0 ≤ x26_1
             ·rw [if_pos c24] at H
              have c24b0 : decide (0 ≤ x26_1) = true := decide_eq_true c24
              clear c24
              by_cases c25 : x26_1 < (t268.length : Int)
              ·rw [if_pos c25] at H
               have c25b0 : decide (x26_1 < (t268.length : Int)) = true := decide_eq_true c25
               clear c25
               have H' := Aside0.mk H
               clear H
               have p275 : 0 ≤ (x26_1 : Int) := of_decide_eq_true (by first | (with_reducible assumption) | assumption)
               have q275 : x26_1 < (t268.length : Int) := of_decide_eq_true (by first | (with_reducible assumption) | assumption)
               obtain ⟨ad275, e275, hx275_0⟩ := Kd.at_int (Kd.R_reads' HO_5.out).2.2 x26_1 p275 q275
               cases e275
               replace p275 := eq_true p275
               replace q275 := eq_true q275
               have p276 : 0 ≤ (x26_1 : Int) := of_decide_eq_true (by first | (with_reducible assumption) | assumption)
               have q276 : x26_1 < (t268.length : Int) := of_decide_eq_true (by first | (with_reducible assumption) | assumption)
               obtain ⟨ad276, e276, hx276_0⟩ := Kd.at_int (Kd.R_reads' HO_5.out).2.2 x26_1 p276 q276
               obtain rfl : ad275 = ad276 := (by injection e276)
               replace p276 := eq_true p276
               replace q276 := eq_true q276
               go_wp2
               repeat (go_quiet (fail); try go_wp2)
               go_roundg kj16
               case measure => have := HK1.out; have := HJ16.out; omega
               case rel => exact ⟨(wrap64 (x6_1 + ji16)), (wrap64 ((wrap64 (x7_1 + ji16)) - (rd t268 x26_1))), (((rd t268 x26_1) == 0)), (wrap64 (x26_1 + 1)), (by first | rfl | (simp; done) | (simp only [← hji16] <;> (first | rfl | simp)) | (simp [*]; done)), (by first | rfl | (simp; done) | (simp only [← hji16] <;> (first | rfl | simp)) | (simp [*]; done)), (by first | rfl | (simp; done) | (simp [*]; done)), (by first | rfl | (simp; done) | (simp [*]; done)), H', ⟨by have := HK1.out; have := HJ16.out; omega⟩, ⟨by (with_reducible repeat (first | apply Kd.R_alloc | apply Kd.R_drewN | apply Kd.R_drew)); exact HO_5.out⟩, ⟨by repeat (first | (with_reducible first | exact HB.out | apply below_alloc | apply pw_below_drewN | apply below_drew1) | exact HB.out)⟩⟩
              ·rw [if_neg c25] at H
               exact absurd H (by simp)
             ·rw [if_neg c24] at H
              exact absurd H (by simp)
            ·replace c23 := Bool.eq_false_iff.mpr c23
             subst c23
             have H1 : (if 0 ≤ x26_1 then (if x26_1 < (t268.length : Int) then (assessorlaw51_DeadlinesSpends.l0 kj16 a1 t268 (wrap64 (x6_1 + ji16)) (wrap64 ((wrap64 (x7_1 + ji16)) - (rd t268 x26_1))) false l0 (l0.length : Int) (wrap64 (x26_1 + 1))) else (none)) else (none)) = some r := by rw [if_neg (show ¬ (false = true) by decide)] at H; exact H
             clear H
             have H := H1
             clear H1
             by_cases c26 : 0 ≤ x26_1
             ·rw [if_pos c26] at H
              have c26b0 : decide (0 ≤ x26_1) = true := decide_eq_true c26
              clear c26
              by_cases c27 : x26_1 < (t268.length : Int)
              ·rw [if_pos c27] at H
               have c27b0 : decide (x26_1 < (t268.length : Int)) = true := decide_eq_true c27
               clear c27
               have H' := Aside0.mk H
               clear H
               have p277 : 0 ≤ (x26_1 : Int) := of_decide_eq_true (by first | (with_reducible assumption) | assumption)
               have q277 : x26_1 < (t268.length : Int) := of_decide_eq_true (by first | (with_reducible assumption) | assumption)
               obtain ⟨ad277, e277, hx277_0⟩ := Kd.at_int (Kd.R_reads' HO_5.out).2.2 x26_1 p277 q277
               cases e277
               replace p277 := eq_true p277
               replace q277 := eq_true q277
               go_wp2
               repeat (go_quiet (fail); try go_wp2)
               go_roundg kj16
               case measure => have := HK1.out; have := HJ16.out; omega
               case rel => exact ⟨(wrap64 (x6_1 + ji16)), (wrap64 ((wrap64 (x7_1 + ji16)) - (rd t268 x26_1))), (false), (wrap64 (x26_1 + 1)), (by first | rfl | (simp; done) | (simp only [← hji16] <;> (first | rfl | simp)) | (simp [*]; done)), (by first | rfl | (simp; done) | (simp only [← hji16] <;> (first | rfl | simp)) | (simp [*]; done)), (by first | rfl | (simp; done) | (simp [*]; done)), (by first | rfl | (simp; done) | (simp [*]; done)), H', ⟨by have := HK1.out; have := HJ16.out; omega⟩, ⟨by (with_reducible repeat (first | apply Kd.R_alloc | apply Kd.R_drewN | apply Kd.R_drew)); exact HO_5.out⟩, ⟨by repeat (first | (with_reducible first | exact HB.out | apply below_alloc | apply pw_below_drewN | apply below_drew1) | exact HB.out)⟩⟩
              ·rw [if_neg c27] at H
               exact absurd H (by simp)
             ·rw [if_neg c26] at H
              exact absurd H (by simp)
        ·rw [if_neg c14] at H
         exact absurd H (by simp)
       ·rw [if_neg c13] at H
        exact absurd H (by simp)
      ·rw [if_neg c12] at H
       have c12b0 : decide (x26_1 < (l0.length : Int)) = false := decide_eq_false c12
       clear c12
       obtain ⟨ji28, hji28⟩ : ∃ j_ : Int, (mx a1 0) = j_ := ⟨_, rfl⟩
       replace H : (some (x7_1 == (mn x6_1 (mn (ji28) 1099511627776)))) = some r := by first | (rw [hji28] at H; exact H) | (simp only [hji28] at H ⊢; exact H)
       have hji28_ : (if a1 < 0 then 0 else a1) = ji28 := hji28
       obtain ⟨ji29, hji29⟩ : ∃ j_ : Int, (mn (ji28) 1099511627776) = j_ := ⟨_, rfl⟩
       replace H : (some (x7_1 == (mn x6_1 (ji29)))) = some r := by first | (rw [hji29] at H; exact H) | (simp only [hji29] at H ⊢; exact H)
       have hji29_ : (if 1099511627776 < (ji28) then 1099511627776 else (ji28)) = ji29 := hji29
       obtain ⟨ji30, hji30⟩ : ∃ j_ : Int, (mn x6_1 (ji29)) = j_ := ⟨_, rfl⟩
       replace H : (some (x7_1 == (ji30))) = some r := by first | (rw [hji30] at H; exact H) | (simp only [hji30] at H ⊢; exact H)
       have hji30_ : (if (ji29) < x6_1 then (ji29) else x6_1) = ji30 := hji30
       obtain rfl := Option.some.inj H
       go_wp2
       repeat (go_quiet (fail); try go_wp2)
       go_ret
       exact ⟨by first | rfl | (simp [errW_none, errW_some] <;> rfl) | (simp only [← hji28, ← hji29, ← hji30]; first | rfl | (simp [errW_none, errW_some] <;> rfl)) | (simp [*, errW_none, errW_some] <;> rfl), by repeat (first | (with_reducible first | exact HB.out | apply below_alloc | apply pw_below_drewN | apply below_drew1) | exact HB.out)⟩
   ·rw [if_neg c8] at H
    exact absurd H (by simp)
 ·replace c4 := Bool.eq_false_iff.mpr c4
  subst c4
  have H1 : (none) = some r := by rw [if_neg (show ¬ (false = true) by decide)] at H; exact H
  clear H
  have H := H1
  clear H1
  exact absurd H (by simp)

/-- THE ONE PURE STATEMENT of assessorlaw51_DeadlinesSpends: yours. -/
def assessorlaw51_DeadlinesSpends.Pure : Prop := ∀ (l0 : List Int) (a1 : Int), l0.length ≤ maxLen → l0.length * 8 ≤ 140737488351232 → (∀ x ∈ l0, (Lit.int .i64 x).wf = true) → (Lit.int .i64 a1).wf = true → ∃ k, assessorlaw51_DeadlinesSpends.f k l0 a1 = some true
theorem assessorlaw51_DeadlinesSpends.walk (P : assessorlaw51_DeadlinesSpends.Pure) (a0 : Option Addr) (len0 cap0 : Nat) (z0 : List Int) (a1 : Int) (w : World) (w0 : (a0 = none ∧ len0 = 0 ∧ cap0 = 0 ∧ z0 = []) ∨ ∃ x, a0 = some x ∧ len0 ≤ cap0 ∧ cap0 ≤ maxLen ∧ z0.length = cap0 ∧ (∀ i, i < z0.length → w.cell? (x.add i) = some (.int .i64 (z0.getD i 0))) ∧ ∀ n ∈ z0, (Lit.int .i64 n).wf = true) (y0 : len0 * 8 ≤ 140737488351232) (w1 : (Lit.int .i64 a1).wf = true) :
  Calls Try.prog 6 #[.slice a0 len0 cap0, .int .i64 a1] w fun e w' => e = .returned (.bool true) ∧ Below w.heap.size w w' := by
 obtain ⟨l0, rfl, hr0, hm0, hw0, hc0⟩ := ReadsInt.ofRowC w0
 obtain ⟨k, h⟩ := P l0 a1 hm0 y0 hw0 w1
 refine (assessorlaw51_DeadlinesSpends.calls k _ _ l0 a1 true w (Kd.C_of_reads (d := (0 : Int)) (h1 := fun _ => rfl) hr0) hc0 h).mono ?_
 rintro e w' ⟨rfl, hd⟩
 exact ⟨rfl, hd⟩

end Go.Proofs.Ytbehhijmcnoeeaa.XA
