/- Functions of the given Go program as Lean functions, each with a proof that the machine's call answers so; conditions: the premises written in each. -/
import Derived.Test.YteaohgebocbehaaGreatDoorXAx0
import Derived.Test.YteaohgebocbehaaGreatDoorXAx1
import Derived.Test.YteaohgebocbehaaGreatDoorXAx7
namespace Go.Proofs.YteaohgebocbehaaGreatDoor.XA
open Go.RowKit Go.Proofs.YteaohgebocbehaaGreatDoorW.PrintWords Go.Proofs.YteaohgebocbehaaGreatDoorW.PrintLast Go.Proofs.YteaohgebocbehaaGreatDoorW.PrintMore
attribute [local go_sem] max2_int min2_int max_two min_two max_three min_three max_four min_four   -- for this text's walks alone
set_option linter.unusedVariables false
set_option linter.unusedSimpArgs false

attribute [local go_sem high] eqA62
/-! ### assessorref24_Valid: function 53 -/
mutual
def assessorref24_Valid.j0 : Nat → Bool → Int → List (S62) → Option (Bool)
 | 0, _, _, _ => none
 | k + 1, x25, x219000, x219001 => if x25 = true then (some false) else (assessorref24_Valid.l0 k 0 x219000 x219001)
def assessorref24_Valid.l0 : Nat → Int → Int → List (S62) → Option (Bool)
 | 0, _, _, _ => none
 | k + 1, x3, x219000, x219001 => if x3 < (x219001.length : Int) then (if 0 ≤ x3 then (if ((rd_T62 x219001 x3).f0) < 2 then (assessorref24_Valid.j2 k x3 true x219000 x219001) else (if ((rd_T62 x219001 x3).f1) ≤ ((rd_T62 x219001 x3).f0) then (assessorref24_Valid.j2 k x3 true x219000 x219001) else (if ((rd_T62 x219001 x3).f1) ≥ (wrap64 (2 * (wrap64 ((wrap64 (1 + x219000)) + x3)))) then (assessorref24_Valid.j2 k x3 true x219000 x219001) else ((assessorref24_Not.f ((rd_T62 x219001 x3).f0)).bind fun t222 => (assessorref24_Valid.j2 k x3 (t222 == ((rd_T62 x219001 x3).f1)) x219000 x219001))))) else (none)) else (some true)
def assessorref24_Valid.j2 : Nat → Int → Bool → Int → List (S62) → Option (Bool)
 | 0, _, _, _, _ => none
 | k + 1, x3, x67, x219000, x219001 => if x67 = true then (some false) else (assessorref24_Valid.l1 k x3 0 x219000 x219001)
def assessorref24_Valid.l1 : Nat → Int → Int → Int → List (S62) → Option (Bool)
 | 0, _, _, _, _ => none
 | k + 1, x3, x6, x219000, x219001 => if x6 < x3 then (if 0 ≤ x6 then (if x6 < (x219001.length : Int) then (if 0 ≤ x3 then (if x3 < (x219001.length : Int) then (if (((rd_T62 x219001 x6).f0) == ((rd_T62 x219001 x3).f0) && (((rd_T62 x219001 x6).f1) == ((rd_T62 x219001 x3).f1))) = true then (some false) else (assessorref24_Valid.l1 k x3 (wrap64 (x6 + 1)) x219000 x219001)) else (none)) else (none)) else (none)) else (none)) else (assessorref24_Valid.l0 k (wrap64 (x3 + 1)) x219000 x219001)
end
def assessorref24_Valid.f (k : Nat) (a0_0 : Int) (l0_1 : List (S62)) : Option (Bool) := if a0_0 < 0 then (assessorref24_Valid.j0 k true a0_0 l0_1) else (if a0_0 > 1024 then (assessorref24_Valid.j0 k true a0_0 l0_1) else (if (l0_1.length : Int) > 65536 then (assessorref24_Valid.j0 k true a0_0 l0_1) else ((assessorref24_Nodes.f a0_0 l0_1).bind fun t219 => (assessorref24_Valid.j0 k (decide (t219 > 65536)) a0_0 l0_1))))
theorem assessorref24_Valid.mono_l : ∀ k, (∀ y0 y1 y2, LeO (assessorref24_Valid.j0 k y0 y1 y2) (assessorref24_Valid.j0 (k + 1) y0 y1 y2)) ∧ (∀ y0 y1 y2, LeO (assessorref24_Valid.l0 k y0 y1 y2) (assessorref24_Valid.l0 (k + 1) y0 y1 y2)) ∧ (∀ y0 y1 y2 y3, LeO (assessorref24_Valid.j2 k y0 y1 y2 y3) (assessorref24_Valid.j2 (k + 1) y0 y1 y2 y3)) ∧ (∀ y0 y1 y2 y3, LeO (assessorref24_Valid.l1 k y0 y1 y2 y3) (assessorref24_Valid.l1 (k + 1) y0 y1 y2 y3))
 | 0 => ⟨fun _ _ _ r h => by simp [assessorref24_Valid.j0] at h, fun _ _ _ r h => by simp [assessorref24_Valid.l0] at h, fun _ _ _ _ r h => by simp [assessorref24_Valid.j2] at h, fun _ _ _ _ r h => by simp [assessorref24_Valid.l1] at h⟩
 | k + 1 => by
  obtain ⟨ih0, ih1, ih2, ih3⟩ := assessorref24_Valid.mono_l k
  refine ⟨?_, ?_, ?_, ?_⟩
  ·intro y0 y1 y2
   unfold assessorref24_Valid.j0
   repeat' first
   | (with_reducible exact ih0 _ _ _)
   | (with_reducible exact ih1 _ _ _)
   | (with_reducible exact ih2 _ _ _ _)
   | (with_reducible exact ih3 _ _ _ _)
   | (with_reducible exact LeO.refl _)
   | (with_reducible exact LeO.none _)
   | (with_reducible refine LeO.ite ?_ ?_)
   | (with_reducible refine LeO.bind ?_ (fun _ => ?_))
   | exact ih0 _ _ _
   | exact ih1 _ _ _
   | exact ih2 _ _ _ _
   | exact ih3 _ _ _ _
   | exact LeO.none _
   | refine LeO.ite ?_ ?_
   | refine LeO.bind ?_ (fun _ => ?_)
  ·intro y0 y1 y2
   unfold assessorref24_Valid.l0
   repeat' first
   | (with_reducible exact ih0 _ _ _)
   | (with_reducible exact ih1 _ _ _)
   | (with_reducible exact ih2 _ _ _ _)
   | (with_reducible exact ih3 _ _ _ _)
   | (with_reducible exact LeO.refl _)
   | (with_reducible exact LeO.none _)
   | (with_reducible refine LeO.ite ?_ ?_)
   | (with_reducible refine LeO.bind ?_ (fun _ => ?_))
   | exact ih0 _ _ _
   | exact ih1 _ _ _
   | exact ih2 _ _ _ _
   | exact ih3 _ _ _ _
   | exact LeO.none _
   | refine LeO.ite ?_ ?_
   | refine LeO.bind ?_ (fun _ => ?_)
  ·intro y0 y1 y2 y3
   unfold assessorref24_Valid.j2
   repeat' first
   | (with_reducible exact ih0 _ _ _)
   | (with_reducible exact ih1 _ _ _)
   | (with_reducible exact ih2 _ _ _ _)
   | (with_reducible exact ih3 _ _ _ _)
   | (with_reducible exact LeO.refl _)
   | (with_reducible exact LeO.none _)
   | (with_reducible refine LeO.ite ?_ ?_)
   | (with_reducible refine LeO.bind ?_ (fun _ => ?_))
   | exact ih0 _ _ _
   | exact ih1 _ _ _
   | exact ih2 _ _ _ _
   | exact ih3 _ _ _ _
   | exact LeO.none _
   | refine LeO.ite ?_ ?_
   | refine LeO.bind ?_ (fun _ => ?_)
  ·intro y0 y1 y2 y3
   unfold assessorref24_Valid.l1
   repeat' first
   | (with_reducible exact ih0 _ _ _)
   | (with_reducible exact ih1 _ _ _)
   | (with_reducible exact ih2 _ _ _ _)
   | (with_reducible exact ih3 _ _ _ _)
   | (with_reducible exact LeO.refl _)
   | (with_reducible exact LeO.none _)
   | (with_reducible refine LeO.ite ?_ ?_)
   | (with_reducible refine LeO.bind ?_ (fun _ => ?_))
   | exact ih0 _ _ _
   | exact ih1 _ _ _
   | exact ih2 _ _ _ _
   | exact ih3 _ _ _ _
   | exact LeO.none _
   | refine LeO.ite ?_ ?_
   | refine LeO.bind ?_ (fun _ => ?_)
theorem assessorref24_Valid.mono : ∀ a0 a1 k, LeO (assessorref24_Valid.f k a0 a1) (assessorref24_Valid.f (k + 1) a0 a1) := by
 intro a0 a1 k
 obtain ⟨ih0, ih1, ih2, ih3⟩ := assessorref24_Valid.mono_l k
 unfold assessorref24_Valid.f
 repeat' first
   | (with_reducible exact ih0 _ _ _)
   | (with_reducible exact ih1 _ _ _)
   | (with_reducible exact ih2 _ _ _ _)
   | (with_reducible exact ih3 _ _ _ _)
   | (with_reducible exact LeO.refl _)
   | (with_reducible exact LeO.none _)
   | (with_reducible refine LeO.ite ?_ ?_)
   | (with_reducible refine LeO.bind ?_ (fun _ => ?_))
   | exact ih0 _ _ _
   | exact ih1 _ _ _
   | exact ih2 _ _ _ _
   | exact ih3 _ _ _ _
   | exact LeO.none _
   | refine LeO.ite ?_ ?_
   | refine LeO.bind ?_ (fun _ => ?_)
set_option maxHeartbeats 8000000 in
set_option maxRecDepth 100000 in
theorem assessorref24_Valid.calls (k : Nat) (a0_0 : Int) (A0_1 : Option Addr) (c0_1 : Nat) (l0_1 : List (S62)) (r : Bool) (w : World) (hr0_1 : Kd.C k62 w A0_1 l0_1.length l0_1) (hc0_1 : l0_1.length ≤ c0_1) (h : assessorref24_Valid.f k a0_0 l0_1 = some r) :
  Calls Tryz.prog 53 #[.agg #[.int .i64 a0_0, .slice A0_1 l0_1.length c0_1]] w fun e w' => e = .returned (.bool r) ∧ Below w.heap.size w w' := by
 have hu38 := Tryz.underlying38
 have hu62 := Tryz.underlying62
 have HR0_1 := Aside0.mk hr0_1
 have HC0_1 := Aside0.mk hc0_1
 clear hr0_1 hc0_1
 have HB := Aside0.mk (Below.refl w.heap.size w)
 have H : (if a0_0 < 0 then (assessorref24_Valid.j0 k true a0_0 l0_1) else (if a0_0 > 1024 then (assessorref24_Valid.j0 k true a0_0 l0_1) else (if (l0_1.length : Int) > 65536 then (assessorref24_Valid.j0 k true a0_0 l0_1) else ((assessorref24_Nodes.f a0_0 l0_1).bind fun t219 => (assessorref24_Valid.j0 k (decide (t219 > 65536)) a0_0 l0_1))))) = some r := h
 clear h
 have HC2 := Aside0.mk H
 clear H
 go_enter Tryz.func53, Tryz.ntmps53
 go_upto_region 1 with (first | ((with_reducible refine gate_dst (N := 1) rfl ?_); (try (refine gate_guard (by rfl) ?_; dsimp only)); refine box_event ?hg (N := 1) ?hd (cs := #[.int .i64 a0_0, .slice A0_1 l0_1.length c0_1]) (t := 38) ?hr ?_; (case hd => rfl); (case hg => rfl); (case hr => first | (go_simp; done) | (go_simp; rfl)); intro gb218 hg w3 hbox hb; have n0_ := Aside0.mk (below_step (by repeat (first | (with_reducible first | exact HB.out | apply below_alloc | apply pw_below_drewN | apply below_drew1) | exact HB.out)) hb); have n1_ := Aside0.mk (hbox); have n2_ := Aside0.mk ((by rw [hg]; exact (below_size (by repeat (first | (with_reducible first | exact HB.out | apply below_alloc | apply pw_below_drewN | apply below_drew1) | exact HB.out))) : w.heap.size ≤ gb218)); have n3_ := Aside0.mk ((by rw [hg]; exact (below_size (by repeat (first | (with_reducible first | exact HB.out | apply below_alloc | apply pw_below_drewN | apply below_drew1) | exact HB.out))) : w.heap.size ≤ gb218)); clear HB; have HB := n0_; have BK218 := n1_; have GW218 := n2_; have GE218 := n3_; clear n0_ n1_ n2_ n3_; clear hb hbox hg))
 repeat (go_quiet (first | ((with_reducible refine gate_dst (N := 1) rfl ?_); (try (refine gate_guard (by rfl) ?_; dsimp only)); refine box_event ?hg (N := 1) ?hd (cs := #[.int .i64 a0_0, .slice A0_1 l0_1.length c0_1]) (t := 38) ?hr ?_; (case hd => rfl); (case hg => rfl); (case hr => first | (go_simp; done) | (go_simp; rfl)); intro gb218 hg w3 hbox hb; have n0_ := Aside0.mk (below_step (by repeat (first | (with_reducible first | exact HB.out | apply below_alloc | apply pw_below_drewN | apply below_drew1) | exact HB.out)) hb); have n1_ := Aside0.mk (hbox); have n2_ := Aside0.mk ((by rw [hg]; exact (below_size (by repeat (first | (with_reducible first | exact HB.out | apply below_alloc | apply pw_below_drewN | apply below_drew1) | exact HB.out))) : w.heap.size ≤ gb218)); have n3_ := Aside0.mk ((by rw [hg]; exact (below_size (by repeat (first | (with_reducible first | exact HB.out | apply below_alloc | apply pw_below_drewN | apply below_drew1) | exact HB.out))) : w.heap.size ≤ gb218)); clear HB; have HB := n0_; have BK218 := n1_; have GW218 := n2_; have GE218 := n3_; clear n0_ n1_ n2_ n3_; clear hb hbox hg)); go_upto_region 1 with (first | ((with_reducible refine gate_dst (N := 1) rfl ?_); (try (refine gate_guard (by rfl) ?_; dsimp only)); refine box_event ?hg (N := 1) ?hd (cs := #[.int .i64 a0_0, .slice A0_1 l0_1.length c0_1]) (t := 38) ?hr ?_; (case hd => rfl); (case hg => rfl); (case hr => first | (go_simp; done) | (go_simp; rfl)); intro gb218 hg w3 hbox hb; have n0_ := Aside0.mk (below_step (by repeat (first | (with_reducible first | exact HB.out | apply below_alloc | apply pw_below_drewN | apply below_drew1) | exact HB.out)) hb); have n1_ := Aside0.mk (hbox); have n2_ := Aside0.mk ((by rw [hg]; exact (below_size (by repeat (first | (with_reducible first | exact HB.out | apply below_alloc | apply pw_below_drewN | apply below_drew1) | exact HB.out))) : w.heap.size ≤ gb218)); have n3_ := Aside0.mk ((by rw [hg]; exact (below_size (by repeat (first | (with_reducible first | exact HB.out | apply below_alloc | apply pw_below_drewN | apply below_drew1) | exact HB.out))) : w.heap.size ≤ gb218)); clear HB; have HB := n0_; have BK218 := n1_; have GW218 := n2_; have GE218 := n3_; clear n0_ n1_ n2_ n3_; clear hb hbox hg)))
 (try simp only [Act.put, List.setIfInBounds_toArray, List.set_cons_zero, List.set_cons_succ])
 go_cut [25] (fun v25 wc => ∃ (kq : Nat) (x25_1 : Bool), v25 = .bool x25_1 ∧ Aside0 (assessorref24_Valid.j0 kq x25_1 a0_0 l0_1 = some r) ∧ Aside0 (kq ≤ k) ∧ Aside0 (wc.heap[gb218]? = some (.cells #[.int .i64 a0_0, (.slice A0_1 l0_1.length c0_1)] 38 (0, 0))) ∧ Aside0 (Below w.heap.size w wc))
 case first =>
  have H := HC2.out
  clear HC2
  by_cases c4 : a0_0 < 0
  ·rw [if_pos c4] at H
   have c4b0 : decide (a0_0 < 0) = true := decide_eq_true c4
   clear c4
   (first | rw [c4b0] | (simp only [i64_w, i32_w]; rw [c4b0]) | skip)
   have H' := Aside0.mk H
   clear H
   have hcz5_0 : w3.cell? ⟨gb218, 0, none⟩ = some (.int .i64 a0_0) := (blk_cell BK218.out 0).trans rfl
   have hcz5_1 : w3.cell? ⟨gb218, 1, none⟩ = some (.slice A0_1 l0_1.length c0_1) := (blk_cell BK218.out 1).trans rfl
   have hfz5_0 := blk_frozen BK218.out 0
   have hfz5_1 := blk_frozen BK218.out 1
   go_wp2
   repeat (go_quiet (fail); try go_wp2)
   go_meet
   case rel => exact ⟨_, (true), (by first | rfl | (simp; done) | (simp [*]; done)), H', ⟨by first | omega | exact Nat.le_refl _⟩, ⟨by (with_reducible repeat (first | refine blk_drewN ?_ _ | refine blk_drew ?_ | refine blk_alloc ?_ _)); exact BK218.out⟩, ⟨by repeat (first | (with_reducible first | exact HB.out | apply below_alloc | apply pw_below_drewN | apply below_drew1 | refine below_set ?_ GE218.out) | exact HB.out)⟩⟩
  ·rw [if_neg c4] at H
   have c4b0 : decide (a0_0 < 0) = false := decide_eq_false c4
   clear c4
   (first | rw [c4b0] | (simp only [i64_w, i32_w]; rw [c4b0]) | skip)
   by_cases c6 : a0_0 > 1024
   ·rw [if_pos c6] at H
    have c6b0 : decide (1024 < a0_0) = true := decide_eq_true c6
    clear c6
    have H' := Aside0.mk H
    clear H
    have hcz7_0 : w3.cell? ⟨gb218, 0, none⟩ = some (.int .i64 a0_0) := (blk_cell BK218.out 0).trans rfl
    have hcz7_1 : w3.cell? ⟨gb218, 1, none⟩ = some (.slice A0_1 l0_1.length c0_1) := (blk_cell BK218.out 1).trans rfl
    have hfz7_0 := blk_frozen BK218.out 0
    have hfz7_1 := blk_frozen BK218.out 1
    go_wp2
    repeat (go_quiet (fail); try go_wp2)
    go_meet
    case rel => exact ⟨_, (true), (by first | rfl | (simp; done) | (simp [*]; done)), H', ⟨by first | omega | exact Nat.le_refl _⟩, ⟨by (with_reducible repeat (first | refine blk_drewN ?_ _ | refine blk_drew ?_ | refine blk_alloc ?_ _)); exact BK218.out⟩, ⟨by repeat (first | (with_reducible first | exact HB.out | apply below_alloc | apply pw_below_drewN | apply below_drew1 | refine below_set ?_ GE218.out) | exact HB.out)⟩⟩
   ·rw [if_neg c6] at H
    have c6b0 : decide (1024 < a0_0) = false := decide_eq_false c6
    clear c6
    by_cases c8 : (l0_1.length : Int) > 65536
    ·rw [if_pos c8] at H
     have c8b0 : decide (65536 < (l0_1.length : Int)) = true := decide_eq_true c8
     have c8b1 : decide (65536 < l0_1.length) = true := decide_eq_true (by omega)
     clear c8
     have H' := Aside0.mk H
     clear H
     have hcz9_0 : w3.cell? ⟨gb218, 0, none⟩ = some (.int .i64 a0_0) := (blk_cell BK218.out 0).trans rfl
     have hcz9_1 : w3.cell? ⟨gb218, 1, none⟩ = some (.slice A0_1 l0_1.length c0_1) := (blk_cell BK218.out 1).trans rfl
     have hfz9_0 := blk_frozen BK218.out 0
     have hfz9_1 := blk_frozen BK218.out 1
     go_wp2
     repeat (go_quiet (fail); try go_wp2)
     go_meet
     case rel => exact ⟨_, (true), (by first | rfl | (simp; done) | (simp [*]; done)), H', ⟨by first | omega | exact Nat.le_refl _⟩, ⟨by (with_reducible repeat (first | refine blk_drewN ?_ _ | refine blk_drew ?_ | refine blk_alloc ?_ _)); exact BK218.out⟩, ⟨by repeat (first | (with_reducible first | exact HB.out | apply below_alloc | apply pw_below_drewN | apply below_drew1 | refine below_set ?_ GE218.out) | exact HB.out)⟩⟩
    ·rw [if_neg c8] at H
     have c8b0 : decide (65536 < (l0_1.length : Int)) = false := decide_eq_false c8
     have c8b1 : decide (65536 < l0_1.length) = false := decide_eq_false (by omega)
     clear c8
     replace H := Option.bind_eq_some_iff.mp H
     obtain ⟨t219, A100, H⟩ := H
     replace H : (assessorref24_Valid.j0 k (decide (t219 > 65536)) a0_0 l0_1) = some r := H
     have A10 := Aside0.mk A100
     clear A100
     have H' := Aside0.mk H
     clear H
     have hcz11_0 : w3.cell? ⟨gb218, 0, none⟩ = some (.int .i64 a0_0) := (blk_cell BK218.out 0).trans rfl
     have hcz11_1 : w3.cell? ⟨gb218, 1, none⟩ = some (.slice A0_1 l0_1.length c0_1) := (blk_cell BK218.out 1).trans rfl
     have hfz11_0 := blk_frozen BK218.out 0
     have hfz11_1 := blk_frozen BK218.out 1
     go_wp2_with (first | (go_at_call 38; (with_reducible refine (assessorref24_Nodes.calls a0_0 _ _ l0_1 t219 _ ?side1 ?side2 A10.out).mono ?_); (case side1 => repeat (first | exact (Kd.C_below HR0_1.out HB.out) | (with_reducible refine Kd.C_alloc ?_ _) | (with_reducible refine Kd.C_drewN ?_ _) | (with_reducible refine Kd.C_drew ?_))); (case side2 => exact HC0_1.out); rintro e w12 ⟨rfl, hb⟩; have n0_ := Aside0.mk (blk_below (g := gb218) (o := .cells #[.int .i64 a0_0, .slice A0_1 l0_1.length c0_1] 38 (0, 0)) (by (with_reducible repeat (first | refine blk_drewN ?_ _ | refine blk_drew ?_ | refine blk_alloc ?_ _)); exact BK218.out) hb); have n1_ := Aside0.mk (below_step (by repeat (first | (with_reducible first | exact HB.out | apply below_alloc | apply pw_below_drewN | apply below_drew1 | refine below_set ?_ GE218.out) | exact HB.out)) hb); clear BK218; clear HB; have BK218 := n0_; have HB := n1_; clear n0_ n1_; (try clear hb); (try clear hb2); (try clear hk); (try clear hi)))
     repeat (go_quiet (first | (go_at_call 38; (with_reducible refine (assessorref24_Nodes.calls a0_0 _ _ l0_1 t219 _ ?side1 ?side2 A10.out).mono ?_); (case side1 => repeat (first | exact (Kd.C_below HR0_1.out HB.out) | (with_reducible refine Kd.C_alloc ?_ _) | (with_reducible refine Kd.C_drewN ?_ _) | (with_reducible refine Kd.C_drew ?_))); (case side2 => exact HC0_1.out); rintro e w12 ⟨rfl, hb⟩; have n0_ := Aside0.mk (blk_below (g := gb218) (o := .cells #[.int .i64 a0_0, .slice A0_1 l0_1.length c0_1] 38 (0, 0)) (by (with_reducible repeat (first | refine blk_drewN ?_ _ | refine blk_drew ?_ | refine blk_alloc ?_ _)); exact BK218.out) hb); have n1_ := Aside0.mk (below_step (by repeat (first | (with_reducible first | exact HB.out | apply below_alloc | apply pw_below_drewN | apply below_drew1 | refine below_set ?_ GE218.out) | exact HB.out)) hb); clear BK218; clear HB; have BK218 := n0_; have HB := n1_; clear n0_ n1_; (try clear hb); (try clear hb2); (try clear hk); (try clear hi))); try go_wp2_with (first | (go_at_call 38; (with_reducible refine (assessorref24_Nodes.calls a0_0 _ _ l0_1 t219 _ ?side1 ?side2 A10.out).mono ?_); (case side1 => repeat (first | exact (Kd.C_below HR0_1.out HB.out) | (with_reducible refine Kd.C_alloc ?_ _) | (with_reducible refine Kd.C_drewN ?_ _) | (with_reducible refine Kd.C_drew ?_))); (case side2 => exact HC0_1.out); rintro e w12 ⟨rfl, hb⟩; have n0_ := Aside0.mk (blk_below (g := gb218) (o := .cells #[.int .i64 a0_0, .slice A0_1 l0_1.length c0_1] 38 (0, 0)) (by (with_reducible repeat (first | refine blk_drewN ?_ _ | refine blk_drew ?_ | refine blk_alloc ?_ _)); exact BK218.out) hb); have n1_ := Aside0.mk (below_step (by repeat (first | (with_reducible first | exact HB.out | apply below_alloc | apply pw_below_drewN | apply below_drew1 | refine below_set ?_ GE218.out) | exact HB.out)) hb); clear BK218; clear HB; have BK218 := n0_; have HB := n1_; clear n0_ n1_; (try clear hb); (try clear hb2); (try clear hk); (try clear hi))))
     go_meet
     case rel => exact ⟨_, (decide (t219 > 65536)), (by first | rfl | (simp; done) | (simp [*]; done)), H', ⟨by first | omega | exact Nat.le_refl _⟩, ⟨by (with_reducible repeat (first | refine blk_drewN ?_ _ | refine blk_drew ?_ | refine blk_alloc ?_ _)); exact BK218.out⟩, ⟨by repeat (first | (with_reducible first | exact HB.out | apply below_alloc | apply pw_below_drewN | apply below_drew1 | refine below_set ?_ GE218.out) | exact HB.out)⟩⟩
 case rest =>
  clear HC2
  try clear p2
  try clear c4
  try clear c4b0
  try clear c5
  try clear c6
  try clear c6b0
  try clear c8
  try clear c8b0
  try clear c8b1
  try clear hcz11_0
  try clear hcz11_1
  try clear hcz5_0
  try clear hcz5_1
  try clear hcz7_0
  try clear hcz7_1
  try clear hcz9_0
  try clear hcz9_1
  try clear hfz11_0
  try clear hfz11_1
  try clear hfz5_0
  try clear hfz5_1
  try clear hfz7_0
  try clear hfz7_1
  try clear hfz9_0
  try clear hfz9_1
  obtain ⟨kq, x25_1, rfl, HA, HJ1, BK218, HB⟩ := hcut
  cases kq with
  | zero => exact absurd HA.out (by simp [assessorref24_Valid.j0])
  | succ kj1 =>
   have H := HA.out
   clear HA
   simp only [assessorref24_Valid.j0] at H
   by_cases c13 : x25_1 = true
   ·subst c13
    have H1 : (some false) = some r := by rw [if_pos rfl] at H; exact H
    clear H
    have H := H1
    clear H1
    obtain rfl := Option.some.inj H
    go_wp2
    repeat (go_quiet (fail); try go_wp2)
    go_ret
    exact ⟨by first | rfl | (simp [errW_none, errW_some] <;> rfl) | (simp [*, errW_none, errW_some] <;> rfl), by repeat (first | (with_reducible first | exact HB.out | apply below_alloc | apply pw_below_drewN | apply below_drew1 | refine below_set ?_ GE218.out) | exact HB.out)⟩
   ·replace c13 := Bool.eq_false_iff.mpr c13
    subst c13
    have H1 : (assessorref24_Valid.l0 kj1 0 a0_0 l0_1) = some r := by rw [if_neg (show ¬ (false = true) by decide)] at H; exact H
    clear H
    have H := H1
    clear H1
    have H' := Aside0.mk H
    clear H
    go_wp2
    repeat (go_quiet (fail); try go_wp2)
    go_loopg [3] kj1 (fun kq v3 w' => ∃ (x3_2 : Int), v3 = .int .i64 x3_2 ∧ Aside0 (assessorref24_Valid.l0 kq x3_2 a0_0 l0_1 = some r) ∧ Aside0 (kq ≤ kj1) ∧ Aside0 (w'.heap[gb218]? = some (.cells #[.int .i64 a0_0, (.slice A0_1 l0_1.length c0_1)] 38 (0, 0))) ∧ Aside0 (Below w.heap.size w w'))
    case atStart => exact ⟨(0), (by first | rfl | (simp; done) | (simp [*]; done)), H', ⟨Nat.le_refl _⟩, ⟨by (with_reducible repeat (first | refine blk_drewN ?_ _ | refine blk_drew ?_ | refine blk_alloc ?_ _)); exact BK218.out⟩, ⟨by repeat (first | (with_reducible first | exact HB.out | apply below_alloc | apply pw_below_drewN | apply below_drew1 | refine below_set ?_ GE218.out) | exact HB.out)⟩⟩
    case round =>
     clear H'
     try clear c1
     try clear p2
     try clear c4
     try clear c4b0
     try clear c5
     try clear c6
     try clear c6b0
     try clear c8
     try clear c8b0
     try clear c8b1
     try clear c13
     try clear hcz11_0
     try clear hcz11_1
     try clear hcz5_0
     try clear hcz5_1
     try clear hcz7_0
     try clear hcz7_1
     try clear hcz9_0
     try clear hcz9_1
     try clear hfz11_0
     try clear hfz11_1
     try clear hfz5_0
     try clear hfz5_1
     try clear hfz7_0
     try clear hfz7_1
     try clear hfz9_0
     try clear hfz9_1
     try clear p2
     obtain ⟨x3_2, rfl, HA, HK2, BK218, HB⟩ := hrel
     cases gk with
     | zero => exact absurd HA.out (by simp [assessorref24_Valid.l0])
     | succ k2 =>
      have H := HA.out
      clear HA
      simp only [assessorref24_Valid.l0] at H
      by_cases c14 : x3_2 < (l0_1.length : Int)
      ·rw [if_pos c14] at H
       have c14b0 : decide (x3_2 < (l0_1.length : Int)) = true := decide_eq_true c14
       clear c14
       by_cases c15 : 0 ≤ x3_2
       ·rw [if_pos c15] at H
        have c15b0 : decide (0 ≤ x3_2) = true := decide_eq_true c15
        clear c15
        have HC16 := Aside0.mk H
        clear H
        have hcz17_0 : wr.cell? ⟨gb218, 0, none⟩ = some (.int .i64 a0_0) := (blk_cell BK218.out 0).trans rfl
        have hcz17_1 : wr.cell? ⟨gb218, 1, none⟩ = some (.slice A0_1 l0_1.length c0_1) := (blk_cell BK218.out 1).trans rfl
        have hfz17_0 := blk_frozen BK218.out 0
        have hfz17_1 := blk_frozen BK218.out 1
        have p220 : 0 ≤ (x3_2 : Int) := of_decide_eq_true (by first | (with_reducible assumption) | assumption)
        have q220 : x3_2 < (l0_1.length : Int) := of_decide_eq_true (by first | (with_reducible assumption) | assumption)
        obtain ⟨ad220, e220, hx220_0, hx220_1⟩ := at_T62 HR0_1.out x3_2 p220 q220
        cases e220
        replace hx220_0 := (HB.out.cell (World.block_lt_of_cell? w _ hx220_0)).trans hx220_0
        replace hx220_1 := (HB.out.cell (World.block_lt_of_cell? w _ hx220_1)).trans hx220_1
        replace p220 := eq_true p220
        replace q220 := eq_true q220
        have p221 : 0 ≤ (x3_2 : Int) := of_decide_eq_true (by first | (with_reducible assumption) | assumption)
        have q221 : x3_2 < (l0_1.length : Int) := of_decide_eq_true (by first | (with_reducible assumption) | assumption)
        obtain ⟨ad221, e221, hx221_0, hx221_1⟩ := at_T62 HR0_1.out x3_2 p221 q221
        obtain rfl : ad220 = ad221 := (by injection e221)
        replace hx221_0 := (HB.out.cell (World.block_lt_of_cell? w _ hx221_0)).trans hx221_0
        replace hx221_1 := (HB.out.cell (World.block_lt_of_cell? w _ hx221_1)).trans hx221_1
        replace p221 := eq_true p221
        replace q221 := eq_true q221
        go_upto_region 7 with (fail)
        repeat (go_quiet (fail); go_upto_region 7 with (fail))
        go_cut [67] (fun v67 wc => ∃ (kq : Nat) (x67_15 : Bool), v67 = .bool x67_15 ∧ Aside0 (assessorref24_Valid.j2 kq x3_2 x67_15 a0_0 l0_1 = some r) ∧ Aside0 (kq ≤ k2) ∧ Aside0 (wc.heap[gb218]? = some (.cells #[.int .i64 a0_0, (.slice (some ad220) l0_1.length c0_1)] 38 (0, 0))) ∧ Aside0 (Below w.heap.size w wc))
        case first =>
         have H := HC16.out
         clear HC16
         by_cases c18 : ((rd_T62 l0_1 x3_2).f0) < 2
         ·rw [if_pos c18] at H
          have c18b0 : decide (((rd_T62 l0_1 x3_2).f0) < 2) = true := decide_eq_true c18
          clear c18
          (first | rw [c18b0] | (simp only [i64_w, i32_w]; rw [c18b0]) | skip)
          have H' := Aside0.mk H
          clear H
          go_wp2
          repeat (go_quiet (fail); try go_wp2)
          go_meet
          case rel => exact ⟨_, (true), (by first | rfl | (simp; done) | (simp [*]; done)), H', ⟨by have := HJ1.out; have := HK2.out; first | omega | exact Nat.le_refl _⟩, ⟨by (with_reducible repeat (first | refine blk_drewN ?_ _ | refine blk_drew ?_ | refine blk_alloc ?_ _)); exact BK218.out⟩, ⟨by repeat (first | (with_reducible first | exact HB.out | apply below_alloc | apply pw_below_drewN | apply below_drew1 | refine below_set ?_ GE218.out) | exact HB.out)⟩⟩
         ·rw [if_neg c18] at H
          have c18b0 : decide (((rd_T62 l0_1 x3_2).f0) < 2) = false := decide_eq_false c18
          clear c18
          (first | rw [c18b0] | (simp only [i64_w, i32_w]; rw [c18b0]) | skip)
          by_cases c19 : ((rd_T62 l0_1 x3_2).f1) ≤ ((rd_T62 l0_1 x3_2).f0)
          ·rw [if_pos c19] at H
           have c19b0 : decide (((rd_T62 l0_1 x3_2).f1) ≤ ((rd_T62 l0_1 x3_2).f0)) = true := decide_eq_true c19
           clear c19
           have H' := Aside0.mk H
           clear H
           go_wp2
           repeat (go_quiet (fail); try go_wp2)
           go_meet
           case rel => exact ⟨_, (true), (by first | rfl | (simp; done) | (simp [*]; done)), H', ⟨by have := HJ1.out; have := HK2.out; first | omega | exact Nat.le_refl _⟩, ⟨by (with_reducible repeat (first | refine blk_drewN ?_ _ | refine blk_drew ?_ | refine blk_alloc ?_ _)); exact BK218.out⟩, ⟨by repeat (first | (with_reducible first | exact HB.out | apply below_alloc | apply pw_below_drewN | apply below_drew1 | refine below_set ?_ GE218.out) | exact HB.out)⟩⟩
          ·rw [if_neg c19] at H
           have c19b0 : decide (((rd_T62 l0_1 x3_2).f1) ≤ ((rd_T62 l0_1 x3_2).f0)) = false := decide_eq_false c19
           clear c19
           by_cases c20 : ((rd_T62 l0_1 x3_2).f1) ≥ (wrap64 (2 * (wrap64 ((wrap64 (1 + a0_0)) + x3_2))))
           ·rw [if_pos c20] at H
            have c20b0 : decide ((wrap64 (2 * (wrap64 ((wrap64 (1 + a0_0)) + x3_2)))) ≤ ((rd_T62 l0_1 x3_2).f1)) = true := decide_eq_true c20
            clear c20
            have H' := Aside0.mk H
            clear H
            have hcz21_0 : wr.cell? ⟨gb218, 0, none⟩ = some (.int .i64 a0_0) := (blk_cell BK218.out 0).trans rfl
            have hcz21_1 : wr.cell? ⟨gb218, 1, none⟩ = some (.slice (some ad220) l0_1.length c0_1) := (blk_cell BK218.out 1).trans rfl
            have hfz21_0 := blk_frozen BK218.out 0
            have hfz21_1 := blk_frozen BK218.out 1
            go_wp2
            repeat (go_quiet (fail); try go_wp2)
            go_meet
            case rel => exact ⟨_, (true), (by first | rfl | (simp; done) | (simp [*]; done)), H', ⟨by have := HJ1.out; have := HK2.out; first | omega | exact Nat.le_refl _⟩, ⟨by (with_reducible repeat (first | refine blk_drewN ?_ _ | refine blk_drew ?_ | refine blk_alloc ?_ _)); exact BK218.out⟩, ⟨by repeat (first | (with_reducible first | exact HB.out | apply below_alloc | apply pw_below_drewN | apply below_drew1 | refine below_set ?_ GE218.out) | exact HB.out)⟩⟩
           ·rw [if_neg c20] at H
            have c20b0 : decide ((wrap64 (2 * (wrap64 ((wrap64 (1 + a0_0)) + x3_2)))) ≤ ((rd_T62 l0_1 x3_2).f1)) = false := decide_eq_false c20
            clear c20
            replace H := Option.bind_eq_some_iff.mp H
            obtain ⟨t222, A220, H⟩ := H
            replace H : (assessorref24_Valid.j2 k2 x3_2 (t222 == ((rd_T62 l0_1 x3_2).f1)) a0_0 l0_1) = some r := H
            have A22 := Aside0.mk A220
            clear A220
            have H' := Aside0.mk H
            clear H
            have hcz23_0 : wr.cell? ⟨gb218, 0, none⟩ = some (.int .i64 a0_0) := (blk_cell BK218.out 0).trans rfl
            have hcz23_1 : wr.cell? ⟨gb218, 1, none⟩ = some (.slice (some ad220) l0_1.length c0_1) := (blk_cell BK218.out 1).trans rfl
            have hfz23_0 := blk_frozen BK218.out 0
            have hfz23_1 := blk_frozen BK218.out 1
            go_wp2_with (first | (go_at_call 81; (with_reducible refine (assessorref24_Not.calls ((rd_T62 l0_1 x3_2).f0) t222 _ A22.out).mono ?_); rintro e w' ⟨rfl, ⟨nd, rfl⟩⟩; (try first | exact ⟨rfl, _, World.drewN_drewN _ _ _⟩ | exact ⟨rfl, _, Eq.trans (World.drewN_drewN _ _ _) (congrArg (World.drewN _) (Nat.add_assoc _ _ _))⟩)))
            repeat (go_quiet (first | (go_at_call 81; (with_reducible refine (assessorref24_Not.calls ((rd_T62 l0_1 x3_2).f0) t222 _ A22.out).mono ?_); rintro e w' ⟨rfl, ⟨nd, rfl⟩⟩; (try first | exact ⟨rfl, _, World.drewN_drewN _ _ _⟩ | exact ⟨rfl, _, Eq.trans (World.drewN_drewN _ _ _) (congrArg (World.drewN _) (Nat.add_assoc _ _ _))⟩))); try go_wp2_with (first | (go_at_call 81; (with_reducible refine (assessorref24_Not.calls ((rd_T62 l0_1 x3_2).f0) t222 _ A22.out).mono ?_); rintro e w' ⟨rfl, ⟨nd, rfl⟩⟩; (try first | exact ⟨rfl, _, World.drewN_drewN _ _ _⟩ | exact ⟨rfl, _, Eq.trans (World.drewN_drewN _ _ _) (congrArg (World.drewN _) (Nat.add_assoc _ _ _))⟩))))
            go_meet
            case rel => exact ⟨_, ((t222 == ((rd_T62 l0_1 x3_2).f1))), (by first | rfl | (simp; done) | (simp [*]; done)), H', ⟨by have := HJ1.out; have := HK2.out; first | omega | exact Nat.le_refl _⟩, ⟨by (with_reducible repeat (first | refine blk_drewN ?_ _ | refine blk_drew ?_ | refine blk_alloc ?_ _)); exact BK218.out⟩, ⟨by repeat (first | (with_reducible first | exact HB.out | apply below_alloc | apply pw_below_drewN | apply below_drew1 | refine below_set ?_ GE218.out) | exact HB.out)⟩⟩
        case rest =>
         clear HC16
         try clear c1
         try clear c2
         try clear p2
         try clear q2
         try clear hx2
         try clear c4
         try clear c4b0
         try clear c5
         try clear c6
         try clear c6b0
         try clear p6
         try clear c8
         try clear c8b0
         try clear c8b1
         try clear c13
         try clear c14
         try clear c14b0
         try clear c15
         try clear c15b0
         try clear c18
         try clear c18b0
         try clear c19
         try clear c19b0
         try clear c20
         try clear c20b0
         try clear p22
         try clear q22
         try clear hx22
         try clear hcz11_0
         try clear hcz11_1
         try clear hcz17_0
         try clear hcz17_1
         try clear hcz21_0
         try clear hcz21_1
         try clear hcz23_0
         try clear hcz23_1
         try clear hcz5_0
         try clear hcz5_1
         try clear hcz7_0
         try clear hcz7_1
         try clear hcz9_0
         try clear hcz9_1
         try clear hfz11_0
         try clear hfz11_1
         try clear hfz17_0
         try clear hfz17_1
         try clear hfz21_0
         try clear hfz21_1
         try clear hfz23_0
         try clear hfz23_1
         try clear hfz5_0
         try clear hfz5_1
         try clear hfz7_0
         try clear hfz7_1
         try clear hfz9_0
         try clear hfz9_1
         try clear hx220_0
         try clear hx220_1
         try clear hx221_0
         try clear hx221_1
         try clear p2
         try clear p220
         try clear p221
         try clear q220
         try clear q221
         obtain ⟨kq, x67_15, rfl, HA, HJ15, BK218, HB⟩ := hcut
         cases kq with
         | zero => exact absurd HA.out (by simp [assessorref24_Valid.j2])
         | succ kj15 =>
          have H := HA.out
          clear HA
          simp only [assessorref24_Valid.j2] at H
          by_cases c24 : x67_15 = true
          ·subst c24
           have H1 : (some false) = some r := by rw [if_pos rfl] at H; exact H
           clear H
           have H := H1
           clear H1
           obtain rfl := Option.some.inj H
           go_wp2
           repeat (go_quiet (fail); try go_wp2)
           go_ret
           exact ⟨by first | rfl | (simp [errW_none, errW_some] <;> rfl) | (simp [*, errW_none, errW_some] <;> rfl), by repeat (first | (with_reducible first | exact HB.out | apply below_alloc | apply pw_below_drewN | apply below_drew1 | refine below_set ?_ GE218.out) | exact HB.out)⟩
          ·replace c24 := Bool.eq_false_iff.mpr c24
           subst c24
           have H1 : (assessorref24_Valid.l1 kj15 x3_2 0 a0_0 l0_1) = some r := by rw [if_neg (show ¬ (false = true) by decide)] at H; exact H
           clear H
           have H := H1
           clear H1
           have H' := Aside0.mk H
           clear H
           go_wp2
           repeat (go_quiet (fail); try go_wp2)
           go_loopg [6] kj15 (fun kq v6 w' => ∃ (x6_4 : Int), v6 = .int .i64 x6_4 ∧ Aside0 (assessorref24_Valid.l1 kq x3_2 x6_4 a0_0 l0_1 = some r) ∧ Aside0 (kq ≤ kj15) ∧ Aside0 (w'.heap[gb218]? = some (.cells #[.int .i64 a0_0, (.slice (some ad220) l0_1.length c0_1)] 38 (0, 0))) ∧ Aside0 (Below w.heap.size w w'))
           case atStart => exact ⟨(0), (by first | rfl | (simp; done) | (simp [*]; done)), H', ⟨Nat.le_refl _⟩, ⟨by (with_reducible repeat (first | refine blk_drewN ?_ _ | refine blk_drew ?_ | refine blk_alloc ?_ _)); exact BK218.out⟩, ⟨by repeat (first | (with_reducible first | exact HB.out | apply below_alloc | apply pw_below_drewN | apply below_drew1 | refine below_set ?_ GE218.out) | exact HB.out)⟩⟩
           case round =>
            clear H'
            try clear c1
            try clear c2
            try clear p2
            try clear q2
            try clear hx2
            try clear c4
            try clear c4b0
            try clear c5
            try clear c6
            try clear c6b0
            try clear p6
            try clear c8
            try clear c8b0
            try clear c8b1
            try clear c13
            try clear c14
            try clear c14b0
            try clear c15
            try clear c15b0
            try clear c18
            try clear c18b0
            try clear c19
            try clear c19b0
            try clear c20
            try clear c20b0
            try clear p22
            try clear q22
            try clear hx22
            try clear c24
            try clear hcz11_0
            try clear hcz11_1
            try clear hcz17_0
            try clear hcz17_1
            try clear hcz21_0
            try clear hcz21_1
            try clear hcz23_0
            try clear hcz23_1
            try clear hcz5_0
            try clear hcz5_1
            try clear hcz7_0
            try clear hcz7_1
            try clear hcz9_0
            try clear hcz9_1
            try clear hfz11_0
            try clear hfz11_1
            try clear hfz17_0
            try clear hfz17_1
            try clear hfz21_0
            try clear hfz21_1
            try clear hfz23_0
            try clear hfz23_1
            try clear hfz5_0
            try clear hfz5_1
            try clear hfz7_0
            try clear hfz7_1
            try clear hfz9_0
            try clear hfz9_1
            try clear hx220_0
            try clear hx220_1
            try clear hx221_0
            try clear hx221_1
            try clear p2
            try clear p22
            try clear p220
            try clear p221
            try clear p6
            try clear q2
            try clear q22
            try clear q220
            try clear q221
            obtain ⟨x6_4, rfl, HA, HK4, BK218, HB⟩ := hrel
            cases gk with
            | zero => exact absurd HA.out (by simp [assessorref24_Valid.l1])
            | succ k4 =>
             have H := HA.out
             clear HA
             simp only [assessorref24_Valid.l1] at H
             by_cases c25 : x6_4 < x3_2
             ·rw [if_pos c25] at H
              have c25b0 : decide (x6_4 < x3_2) = true := decide_eq_true c25
              clear c25
              by_cases c26 : 0 ≤ x6_4
              ·rw [if_pos c26] at H
               have c26b0 : decide (0 ≤ x6_4) = true := decide_eq_true c26
               clear c26
               by_cases c27 : x6_4 < (l0_1.length : Int)
               ·rw [if_pos c27] at H
                have c27b0 : decide (x6_4 < (l0_1.length : Int)) = true := decide_eq_true c27
                clear c27
                by_cases c28 : 0 ≤ x3_2
                ·rw [if_pos c28] at H
                 have c28b0 : decide (0 ≤ x3_2) = true := decide_eq_true c28
                 clear c28
                 by_cases c29 : x3_2 < (l0_1.length : Int)
                 ·rw [if_pos c29] at H
                  have c29b0 : decide (x3_2 < (l0_1.length : Int)) = true := decide_eq_true c29
                  clear c29
                  by_cases c30 : (((rd_T62 l0_1 x6_4).f0) == ((rd_T62 l0_1 x3_2).f0) && (((rd_T62 l0_1 x6_4).f1) == ((rd_T62 l0_1 x3_2).f1))) = true
                  ·rw [if_pos c30] at H
                   have c30b0 : (((rd_T62 l0_1 x6_4).f0) == ((rd_T62 l0_1 x3_2).f0) && (((rd_T62 l0_1 x6_4).f1) == ((rd_T62 l0_1 x3_2).f1))) = true := c30
                   (try (have c30b1 : decide (((rd_T62 l0_1 x6_4).f0) = ((rd_T62 l0_1 x3_2).f0) && (((rd_T62 l0_1 x6_4).f1) == ((rd_T62 l0_1 x3_2).f1))) = true := by simpa using c30))
                   (try (have c30b2 : (((rd_T62 l0_1 x6_4).f0) == ((rd_T62 l0_1 x3_2).f0) && (((rd_T62 l0_1 x6_4).f1) == ((rd_T62 l0_1 x3_2).f1))) = true := by simpa using c30))
                   clear c30
                   obtain rfl := Option.some.inj H
                   have hcz31_0 : wr.cell? ⟨gb218, 0, none⟩ = some (.int .i64 a0_0) := (blk_cell BK218.out 0).trans rfl
                   have hcz31_1 : wr.cell? ⟨gb218, 1, none⟩ = some (.slice (some ad220) l0_1.length c0_1) := (blk_cell BK218.out 1).trans rfl
                   have hfz31_0 := blk_frozen BK218.out 0
                   have hfz31_1 := blk_frozen BK218.out 1
                   have p223 : 0 ≤ (x6_4 : Int) := of_decide_eq_true (by first | (with_reducible assumption) | assumption)
                   have q223 : x6_4 < (l0_1.length : Int) := of_decide_eq_true (by first | (with_reducible assumption) | assumption)
                   obtain ⟨ad223, e223, hx223_0, hx223_1⟩ := at_T62 HR0_1.out x6_4 p223 q223
                   obtain rfl : ad220 = ad223 := (by injection e223)
                   replace hx223_0 := (HB.out.cell (World.block_lt_of_cell? w _ hx223_0)).trans hx223_0
                   replace hx223_1 := (HB.out.cell (World.block_lt_of_cell? w _ hx223_1)).trans hx223_1
                   replace p223 := eq_true p223
                   replace q223 := eq_true q223
                   have p224 : 0 ≤ (x3_2 : Int) := of_decide_eq_true (by first | (with_reducible assumption) | assumption)
                   have q224 : x3_2 < (l0_1.length : Int) := of_decide_eq_true (by first | (with_reducible assumption) | assumption)
                   obtain ⟨ad224, e224, hx224_0, hx224_1⟩ := at_T62 HR0_1.out x3_2 p224 q224
                   obtain rfl : ad220 = ad224 := (by injection e224)
                   replace hx224_0 := (HB.out.cell (World.block_lt_of_cell? w _ hx224_0)).trans hx224_0
                   replace hx224_1 := (HB.out.cell (World.block_lt_of_cell? w _ hx224_1)).trans hx224_1
                   replace p224 := eq_true p224
                   replace q224 := eq_true q224
                   go_wp2
                   repeat (go_quiet (fail); try go_wp2)
                   go_ret
                   exact ⟨by first | rfl | (simp [errW_none, errW_some] <;> rfl) | (simp [*, errW_none, errW_some] <;> rfl), by repeat (first | (with_reducible first | exact HB.out | apply below_alloc | apply pw_below_drewN | apply below_drew1 | refine below_set ?_ GE218.out) | exact HB.out)⟩
                  ·rw [if_neg c30] at H
                   have c30b0 : (((rd_T62 l0_1 x6_4).f0) == ((rd_T62 l0_1 x3_2).f0) && (((rd_T62 l0_1 x6_4).f1) == ((rd_T62 l0_1 x3_2).f1))) = false := by simpa using c30
                   (try (have c30b1 : decide (((rd_T62 l0_1 x6_4).f0) = ((rd_T62 l0_1 x3_2).f0) && (((rd_T62 l0_1 x6_4).f1) == ((rd_T62 l0_1 x3_2).f1))) = false := by simpa using c30))
                   (try (have c30b2 : (((rd_T62 l0_1 x6_4).f0) == ((rd_T62 l0_1 x3_2).f0) && (((rd_T62 l0_1 x6_4).f1) == ((rd_T62 l0_1 x3_2).f1))) = false := by simpa using c30))
                   (try (have c30b3 : ¬ (((rd_T62 l0_1 x6_4).f0) = ((rd_T62 l0_1 x3_2).f0) && (((rd_T62 l0_1 x6_4).f1) == ((rd_T62 l0_1 x3_2).f1))) := by simpa using c30))
                   clear c30
                   have H' := Aside0.mk H
                   clear H
                   have hcz32_0 : wr.cell? ⟨gb218, 0, none⟩ = some (.int .i64 a0_0) := (blk_cell BK218.out 0).trans rfl
                   have hcz32_1 : wr.cell? ⟨gb218, 1, none⟩ = some (.slice (some ad220) l0_1.length c0_1) := (blk_cell BK218.out 1).trans rfl
                   have hfz32_0 := blk_frozen BK218.out 0
                   have hfz32_1 := blk_frozen BK218.out 1
                   have p223 : 0 ≤ (x6_4 : Int) := of_decide_eq_true (by first | (with_reducible assumption) | assumption)
                   have q223 : x6_4 < (l0_1.length : Int) := of_decide_eq_true (by first | (with_reducible assumption) | assumption)
                   obtain ⟨ad223, e223, hx223_0, hx223_1⟩ := at_T62 HR0_1.out x6_4 p223 q223
                   obtain rfl : ad220 = ad223 := (by injection e223)
                   replace hx223_0 := (HB.out.cell (World.block_lt_of_cell? w _ hx223_0)).trans hx223_0
                   replace hx223_1 := (HB.out.cell (World.block_lt_of_cell? w _ hx223_1)).trans hx223_1
                   replace p223 := eq_true p223
                   replace q223 := eq_true q223
                   have p224 : 0 ≤ (x3_2 : Int) := of_decide_eq_true (by first | (with_reducible assumption) | assumption)
                   have q224 : x3_2 < (l0_1.length : Int) := of_decide_eq_true (by first | (with_reducible assumption) | assumption)
                   obtain ⟨ad224, e224, hx224_0, hx224_1⟩ := at_T62 HR0_1.out x3_2 p224 q224
                   obtain rfl : ad220 = ad224 := (by injection e224)
                   replace hx224_0 := (HB.out.cell (World.block_lt_of_cell? w _ hx224_0)).trans hx224_0
                   replace hx224_1 := (HB.out.cell (World.block_lt_of_cell? w _ hx224_1)).trans hx224_1
                   replace p224 := eq_true p224
                   replace q224 := eq_true q224
                   go_wp2
                   repeat (go_quiet (fail); try go_wp2)
                   go_roundg k4
                   case measure => have := HJ1.out; have := HK2.out; have := HJ15.out; have := HK4.out; omega
                   case rel => exact ⟨(wrap64 (x6_4 + 1)), (by first | rfl | (simp; done) | (simp [*]; done)), H', ⟨by have := HJ1.out; have := HK2.out; have := HJ15.out; have := HK4.out; omega⟩, ⟨by (with_reducible repeat (first | refine blk_drewN ?_ _ | refine blk_drew ?_ | refine blk_alloc ?_ _)); exact BK218.out⟩, ⟨by repeat (first | (with_reducible first | exact HB.out | apply below_alloc | apply pw_below_drewN | apply below_drew1 | refine below_set ?_ GE218.out) | exact HB.out)⟩⟩
                 ·rw [if_neg c29] at H
                  exact absurd H (by simp)
                ·rw [if_neg c28] at H
                 exact absurd H (by simp)
               ·rw [if_neg c27] at H
                exact absurd H (by simp)
              ·rw [if_neg c26] at H
               exact absurd H (by simp)
             ·rw [if_neg c25] at H
              have c25b0 : decide (x6_4 < x3_2) = false := decide_eq_false c25
              clear c25
              have H' := Aside0.mk H
              clear H
              go_wp2
              repeat (go_quiet (fail); try go_wp2)
              go_roundg k4
              case measure => have := HJ1.out; have := HK2.out; have := HJ15.out; have := HK4.out; omega
              case rel => exact ⟨(wrap64 (x3_2 + 1)), (by first | rfl | (simp; done) | (simp [*]; done)), H', ⟨by have := HJ1.out; have := HK2.out; have := HJ15.out; have := HK4.out; omega⟩, ⟨by (with_reducible repeat (first | refine blk_drewN ?_ _ | refine blk_drew ?_ | refine blk_alloc ?_ _)); exact BK218.out⟩, ⟨by repeat (first | (with_reducible first | exact HB.out | apply below_alloc | apply pw_below_drewN | apply below_drew1 | refine below_set ?_ GE218.out) | exact HB.out)⟩⟩
       ·rw [if_neg c15] at H
        exact absurd H (by simp)
      ·rw [if_neg c14] at H
       have c14b0 : decide (x3_2 < (l0_1.length : Int)) = false := decide_eq_false c14
       clear c14
       obtain rfl := Option.some.inj H
       have hcz33_0 : wr.cell? ⟨gb218, 0, none⟩ = some (.int .i64 a0_0) := (blk_cell BK218.out 0).trans rfl
       have hcz33_1 : wr.cell? ⟨gb218, 1, none⟩ = some (.slice A0_1 l0_1.length c0_1) := (blk_cell BK218.out 1).trans rfl
       have hfz33_0 := blk_frozen BK218.out 0
       have hfz33_1 := blk_frozen BK218.out 1
       go_wp2
       repeat (go_quiet (fail); try go_wp2)
       go_ret
       exact ⟨by first | rfl | (simp [errW_none, errW_some] <;> rfl) | (simp [*, errW_none, errW_some] <;> rfl), by repeat (first | (with_reducible first | exact HB.out | apply below_alloc | apply pw_below_drewN | apply below_drew1 | refine below_set ?_ GE218.out) | exact HB.out)⟩

/-! ### assessorref24_IsLiteral: function 54 -/
def assessorref24_IsLiteral.f (a0_0 : Int) (l0_1 : List (S62)) (a1 : Int) : Option (Bool) := if a1 ≥ 0 then ((assessorref24_Nodes.f a0_0 l0_1).bind fun t226 => (some (decide (a1 < (wrap64 (2 * t226)))))) else (some false)
set_option maxHeartbeats 8000000 in
set_option maxRecDepth 100000 in
theorem assessorref24_IsLiteral.calls (a0_0 : Int) (A0_1 : Option Addr) (c0_1 : Nat) (l0_1 : List (S62)) (a1 : Int) (r : Bool) (w : World) (hr0_1 : Kd.C k62 w A0_1 l0_1.length l0_1) (hc0_1 : l0_1.length ≤ c0_1) (h : assessorref24_IsLiteral.f a0_0 l0_1 a1 = some r) :
  Calls Tryz.prog 54 #[.agg #[.int .i64 a0_0, .slice A0_1 l0_1.length c0_1], .int .i64 a1] w fun e w' => e = .returned (.bool r) ∧ Below w.heap.size w w' := by
 have hu38 := Tryz.underlying38
 have HR0_1 := Aside0.mk hr0_1
 have HC0_1 := Aside0.mk hc0_1
 clear hr0_1 hc0_1
 have HB := Aside0.mk (Below.refl w.heap.size w)
 have H : (if a1 ≥ 0 then ((assessorref24_Nodes.f a0_0 l0_1).bind fun t226 => (some (decide (a1 < (wrap64 (2 * t226)))))) else (some false)) = some r := h
 clear h
 by_cases c3 : a1 ≥ 0
 ·rw [if_pos c3] at H
  have c3b0 : decide (0 ≤ a1) = true := decide_eq_true c3
  clear c3
  replace H := Option.bind_eq_some_iff.mp H
  obtain ⟨t226, A40, H⟩ := H
  replace H : (some (decide (a1 < (wrap64 (2 * t226))))) = some r := H
  have A4 := Aside0.mk A40
  clear A40
  obtain rfl := Option.some.inj H
  go_enter Tryz.func54, Tryz.ntmps54
  go_wp2_with (first | ((with_reducible refine gate_dst (N := 2) rfl ?_); refine box_event ?hg (N := 2) ?hd (cs := #[.int .i64 a0_0, .slice A0_1 l0_1.length c0_1]) (t := 38) ?hr ?_; (case hd => rfl); (case hg => rfl); (case hr => first | (go_simp; done) | (go_simp; rfl)); intro gb225 hg w5 hbox hb; have n0_ := Aside0.mk (below_step (by repeat (first | (with_reducible first | exact HB.out | apply below_alloc | apply pw_below_drewN | apply below_drew1) | exact HB.out)) hb); have n1_ := Aside0.mk (hbox); have n2_ := Aside0.mk ((by rw [hg]; exact (below_size (by repeat (first | (with_reducible first | exact HB.out | apply below_alloc | apply pw_below_drewN | apply below_drew1) | exact HB.out))) : w.heap.size ≤ gb225)); have n3_ := Aside0.mk ((by rw [hg]; exact (below_size (by repeat (first | (with_reducible first | exact HB.out | apply below_alloc | apply pw_below_drewN | apply below_drew1) | exact HB.out))) : w.heap.size ≤ gb225)); clear HB; have HB := n0_; have BK225 := n1_; have GW225 := n2_; have GE225 := n3_; clear n0_ n1_ n2_ n3_; clear hb hbox hg; have hcz6_0 : w5.cell? ⟨gb225, 0, none⟩ = some (.int .i64 a0_0) := (blk_cell BK225.out 0).trans rfl; have hcz6_1 : w5.cell? ⟨gb225, 1, none⟩ = some (.slice A0_1 l0_1.length c0_1) := (blk_cell BK225.out 1).trans rfl; have hfz6_0 := blk_frozen BK225.out 0; have hfz6_1 := blk_frozen BK225.out 1) | (go_at_call 38; (with_reducible refine (assessorref24_Nodes.calls a0_0 _ _ l0_1 t226 _ ?side1 ?side2 A4.out).mono ?_); (case side1 => repeat (first | exact (Kd.C_below HR0_1.out HB.out) | (with_reducible refine Kd.C_alloc ?_ _) | (with_reducible refine Kd.C_drewN ?_ _) | (with_reducible refine Kd.C_drew ?_))); (case side2 => exact HC0_1.out); rintro e w7 ⟨rfl, hb⟩; have n0_ := Aside0.mk (blk_below (g := gb225) (o := .cells #[.int .i64 a0_0, .slice A0_1 l0_1.length c0_1] 38 (0, 0)) (by (with_reducible repeat (first | refine blk_drewN ?_ _ | refine blk_drew ?_ | refine blk_alloc ?_ _)); exact BK225.out) hb); have n1_ := Aside0.mk (below_step (by repeat (first | (with_reducible first | exact HB.out | apply below_alloc | apply pw_below_drewN | apply below_drew1 | refine below_set ?_ GE225.out) | exact HB.out)) hb); clear BK225; clear HB; have BK225 := n0_; have HB := n1_; clear n0_ n1_; (try clear hb); (try clear hb2); (try clear hk); (try clear hi)))
  go_ret
  exact ⟨by first | rfl | (simp [errW_none, errW_some] <;> rfl) | (simp [*, errW_none, errW_some] <;> rfl), by repeat (first | (with_reducible first | exact HB.out | apply below_alloc | apply pw_below_drewN | apply below_drew1 | refine below_set ?_ GE225.out) | exact HB.out)⟩
 ·rw [if_neg c3] at H
  have c3b0 : decide (0 ≤ a1) = false := decide_eq_false c3
  clear c3
  obtain rfl := Option.some.inj H
  go_enter Tryz.func54, Tryz.ntmps54
  go_wp2_with (first | ((with_reducible refine gate_dst (N := 2) rfl ?_); refine box_event ?hg (N := 2) ?hd (cs := #[.int .i64 a0_0, .slice A0_1 l0_1.length c0_1]) (t := 38) ?hr ?_; (case hd => rfl); (case hg => rfl); (case hr => first | (go_simp; done) | (go_simp; rfl)); intro gb225 hg w8 hbox hb; have n0_ := Aside0.mk (below_step (by repeat (first | (with_reducible first | exact HB.out | apply below_alloc | apply pw_below_drewN | apply below_drew1) | exact HB.out)) hb); have n1_ := Aside0.mk (hbox); have n2_ := Aside0.mk ((by rw [hg]; exact (below_size (by repeat (first | (with_reducible first | exact HB.out | apply below_alloc | apply pw_below_drewN | apply below_drew1) | exact HB.out))) : w.heap.size ≤ gb225)); have n3_ := Aside0.mk ((by rw [hg]; exact (below_size (by repeat (first | (with_reducible first | exact HB.out | apply below_alloc | apply pw_below_drewN | apply below_drew1) | exact HB.out))) : w.heap.size ≤ gb225)); clear HB; have HB := n0_; have BK225 := n1_; have GW225 := n2_; have GE225 := n3_; clear n0_ n1_ n2_ n3_; clear hb hbox hg))
  go_ret
  exact ⟨by first | rfl | (simp [errW_none, errW_some] <;> rfl) | (simp [*, errW_none, errW_some] <;> rfl), by repeat (first | (with_reducible first | exact HB.out | apply below_alloc | apply pw_below_drewN | apply below_drew1 | refine below_set ?_ GE225.out) | exact HB.out)⟩

end Go.Proofs.YteaohgebocbehaaGreatDoor.XA
