/- Functions of the given Go program as Lean functions, each with a proof that the machine's call answers so; conditions: the premises written in each. -/
import Derived.Test.YteaohgebocbehaaGreatDoorXAx0
import Derived.Test.YteaohgebocbehaaGreatDoorXAx3
namespace Go.Proofs.YteaohgebocbehaaGreatDoor.XA
open Go.RowKit Go.Proofs.YteaohgebocbehaaGreatDoorW.PrintWords Go.Proofs.YteaohgebocbehaaGreatDoorW.PrintLast Go.Proofs.YteaohgebocbehaaGreatDoorW.PrintMore
attribute [local go_sem] max2_int min2_int max_two min_two max_three min_three max_four min_four   -- for this text's walks alone
set_option linter.unusedVariables false
set_option linter.unusedSimpArgs false

/-! ### assessorref26_Normal: function 13 -/
mutual
def assessorref26_Normal.l0 : Nat → List Int → List Int → Int → Option (List Int × Bool)
 | 0, _, _, _ => none
 | k + 1, x0, x4, x5 => if x5 < (x0.length : Int) then (if 0 ≤ x5 then (if (rd x0 x5) = 0 then (assessorref26_Normal.j1 k x0 x4 x5 true) else (if (rd x0 x5) < (-1073741824) then (assessorref26_Normal.j1 k x0 x4 x5 true) else (assessorref26_Normal.j1 k x0 x4 x5 (decide ((rd x0 x5) > 1073741824))))) else (none)) else (some (x4, true))
def assessorref26_Normal.j1 : Nat → List Int → List Int → Int → Bool → Option (List Int × Bool)
 | 0, _, _, _, _ => none
 | k + 1, x0, x4, x5, x33 => if x33 = true then (some (([] : List Int), false)) else (assessorref26_Normal.l1 k x0 x4 x5 0)
def assessorref26_Normal.j3 : Nat → List Int → List Int → Int → Int → Option (List Int × Bool)
 | 0, _, _, _, _ => none
 | k + 1, x0, x4, x5, x6 => if x6 < (x4.length : Int) then (if 0 ≤ x6 then (if 0 ≤ x5 then (if x5 < (x0.length : Int) then (assessorref26_Normal.j4 k x0 x4 x5 x6 ((rd x4 x6) == (wrap64 (-(rd x0 x5))))) else (none)) else (none)) else (none)) else (assessorref26_Normal.j4 k x0 x4 x5 x6 false)
def assessorref26_Normal.j4 : Nat → List Int → List Int → Int → Int → Bool → Option (List Int × Bool)
 | 0, _, _, _, _, _ => none
 | k + 1, x0, x4, x5, x6, x68 => if x68 = true then (some (([] : List Int), false)) else (if x6 < (x4.length : Int) then (if 0 ≤ x6 then (if 0 ≤ x5 then (if x5 < (x0.length : Int) then (if (rd x4 x6) = (rd x0 x5) then (assessorref26_Normal.l0 k x0 x4 (wrap64 (x5 + 1))) else ((some (([] : List Int) : List Int)).bind fun y154 => (if x6 ≤ (x4.length : Int) then ((some (x4.take (x6 : Int).toNat : List Int)).bind fun y157 => (if y154.length + y157.length < 17592186044416 then ((some (y154 ++ y157 : List Int)).bind fun y161 => (if y161.length < 17592186044416 then ((some (y161 ++ [rd x0 x5] : List Int)).bind fun y165 => ((some (x4.drop (x6 : Int).toNat : List Int)).bind fun y168 => (if y165.length + y168.length < 17592186044416 then (assessorref26_Normal.l0 k x0 (y165 ++ y168) (wrap64 (x5 + 1))) else (none)))) else (none))) else (none))) else (none)))) else (none)) else (none)) else (none)) else ((some (([] : List Int) : List Int)).bind fun y175 => (if 0 ≤ x6 then (if x6 ≤ (x4.length : Int) then ((some (x4.take (x6 : Int).toNat : List Int)).bind fun y178 => (if y175.length + y178.length < 17592186044416 then ((some (y175 ++ y178 : List Int)).bind fun y182 => (if 0 ≤ x5 then (if x5 < (x0.length : Int) then (if y182.length < 17592186044416 then ((some (y182 ++ [rd x0 x5] : List Int)).bind fun y186 => ((some (x4.drop (x6 : Int).toNat : List Int)).bind fun y189 => (if y186.length + y189.length < 17592186044416 then (assessorref26_Normal.l0 k x0 (y186 ++ y189) (wrap64 (x5 + 1))) else (none)))) else (none)) else (none)) else (none))) else (none))) else (none)) else (none))))
def assessorref26_Normal.l1 : Nat → List Int → List Int → Int → Int → Option (List Int × Bool)
 | 0, _, _, _, _ => none
 | k + 1, x0, x4, x5, x6 => if x6 < (x4.length : Int) then (if 0 ≤ x6 then ((assessorref26_Variable.f (rd x4 x6)).bind fun t147 => (if 0 ≤ x5 then (if x5 < (x0.length : Int) then ((assessorref26_Variable.f (rd x0 x5)).bind fun t149 => (if t147 < t149 then (assessorref26_Normal.l1 k x0 x4 x5 (wrap64 (x6 + 1))) else (assessorref26_Normal.j3 k x0 x4 x5 x6))) else (none)) else (none))) else (none)) else (assessorref26_Normal.j3 k x0 x4 x5 x6)
end
def assessorref26_Normal.f (k : Nat) (l0 : List Int) : Option (List Int × Bool) := assessorref26_Normal.l0 k l0 (([] : List Int)) 0
theorem assessorref26_Normal.mono_l : ∀ k, (∀ y0 y1 y2, LeO (assessorref26_Normal.l0 k y0 y1 y2) (assessorref26_Normal.l0 (k + 1) y0 y1 y2)) ∧ (∀ y0 y1 y2 y3, LeO (assessorref26_Normal.j1 k y0 y1 y2 y3) (assessorref26_Normal.j1 (k + 1) y0 y1 y2 y3)) ∧ (∀ y0 y1 y2 y3, LeO (assessorref26_Normal.j3 k y0 y1 y2 y3) (assessorref26_Normal.j3 (k + 1) y0 y1 y2 y3)) ∧ (∀ y0 y1 y2 y3 y4, LeO (assessorref26_Normal.j4 k y0 y1 y2 y3 y4) (assessorref26_Normal.j4 (k + 1) y0 y1 y2 y3 y4)) ∧ (∀ y0 y1 y2 y3, LeO (assessorref26_Normal.l1 k y0 y1 y2 y3) (assessorref26_Normal.l1 (k + 1) y0 y1 y2 y3))
 | 0 => ⟨fun _ _ _ r h => by simp [assessorref26_Normal.l0] at h, fun _ _ _ _ r h => by simp [assessorref26_Normal.j1] at h, fun _ _ _ _ r h => by simp [assessorref26_Normal.j3] at h, fun _ _ _ _ _ r h => by simp [assessorref26_Normal.j4] at h, fun _ _ _ _ r h => by simp [assessorref26_Normal.l1] at h⟩
 | k + 1 => by
  obtain ⟨ih0, ih1, ih2, ih3, ih4⟩ := assessorref26_Normal.mono_l k
  refine ⟨?_, ?_, ?_, ?_, ?_⟩
  ·intro y0 y1 y2
   unfold assessorref26_Normal.l0
   repeat' first
   | (with_reducible exact ih0 _ _ _)
   | (with_reducible exact ih1 _ _ _ _)
   | (with_reducible exact ih2 _ _ _ _)
   | (with_reducible exact ih3 _ _ _ _ _)
   | (with_reducible exact ih4 _ _ _ _)
   | (with_reducible exact LeO.refl _)
   | (with_reducible exact LeO.none _)
   | (with_reducible refine LeO.ite ?_ ?_)
   | (with_reducible refine LeO.bind ?_ (fun _ => ?_))
   | exact ih0 _ _ _
   | exact ih1 _ _ _ _
   | exact ih2 _ _ _ _
   | exact ih3 _ _ _ _ _
   | exact ih4 _ _ _ _
   | exact LeO.none _
   | refine LeO.ite ?_ ?_
   | refine LeO.bind ?_ (fun _ => ?_)
  ·intro y0 y1 y2 y3
   unfold assessorref26_Normal.j1
   repeat' first
   | (with_reducible exact ih0 _ _ _)
   | (with_reducible exact ih1 _ _ _ _)
   | (with_reducible exact ih2 _ _ _ _)
   | (with_reducible exact ih3 _ _ _ _ _)
   | (with_reducible exact ih4 _ _ _ _)
   | (with_reducible exact LeO.refl _)
   | (with_reducible exact LeO.none _)
   | (with_reducible refine LeO.ite ?_ ?_)
   | (with_reducible refine LeO.bind ?_ (fun _ => ?_))
   | exact ih0 _ _ _
   | exact ih1 _ _ _ _
   | exact ih2 _ _ _ _
   | exact ih3 _ _ _ _ _
   | exact ih4 _ _ _ _
   | exact LeO.none _
   | refine LeO.ite ?_ ?_
   | refine LeO.bind ?_ (fun _ => ?_)
  ·intro y0 y1 y2 y3
   unfold assessorref26_Normal.j3
   repeat' first
   | (with_reducible exact ih0 _ _ _)
   | (with_reducible exact ih1 _ _ _ _)
   | (with_reducible exact ih2 _ _ _ _)
   | (with_reducible exact ih3 _ _ _ _ _)
   | (with_reducible exact ih4 _ _ _ _)
   | (with_reducible exact LeO.refl _)
   | (with_reducible exact LeO.none _)
   | (with_reducible refine LeO.ite ?_ ?_)
   | (with_reducible refine LeO.bind ?_ (fun _ => ?_))
   | exact ih0 _ _ _
   | exact ih1 _ _ _ _
   | exact ih2 _ _ _ _
   | exact ih3 _ _ _ _ _
   | exact ih4 _ _ _ _
   | exact LeO.none _
   | refine LeO.ite ?_ ?_
   | refine LeO.bind ?_ (fun _ => ?_)
  ·intro y0 y1 y2 y3 y4
   unfold assessorref26_Normal.j4
   repeat' first
   | (with_reducible exact ih0 _ _ _)
   | (with_reducible exact ih1 _ _ _ _)
   | (with_reducible exact ih2 _ _ _ _)
   | (with_reducible exact ih3 _ _ _ _ _)
   | (with_reducible exact ih4 _ _ _ _)
   | (with_reducible exact LeO.refl _)
   | (with_reducible exact LeO.none _)
   | (with_reducible refine LeO.ite ?_ ?_)
   | (with_reducible refine LeO.bind ?_ (fun _ => ?_))
   | exact ih0 _ _ _
   | exact ih1 _ _ _ _
   | exact ih2 _ _ _ _
   | exact ih3 _ _ _ _ _
   | exact ih4 _ _ _ _
   | exact LeO.none _
   | refine LeO.ite ?_ ?_
   | refine LeO.bind ?_ (fun _ => ?_)
  ·intro y0 y1 y2 y3
   unfold assessorref26_Normal.l1
   repeat' first
   | (with_reducible exact ih0 _ _ _)
   | (with_reducible exact ih1 _ _ _ _)
   | (with_reducible exact ih2 _ _ _ _)
   | (with_reducible exact ih3 _ _ _ _ _)
   | (with_reducible exact ih4 _ _ _ _)
   | (with_reducible exact LeO.refl _)
   | (with_reducible exact LeO.none _)
   | (with_reducible refine LeO.ite ?_ ?_)
   | (with_reducible refine LeO.bind ?_ (fun _ => ?_))
   | exact ih0 _ _ _
   | exact ih1 _ _ _ _
   | exact ih2 _ _ _ _
   | exact ih3 _ _ _ _ _
   | exact ih4 _ _ _ _
   | exact LeO.none _
   | refine LeO.ite ?_ ?_
   | refine LeO.bind ?_ (fun _ => ?_)
theorem assessorref26_Normal.mono : ∀ a0 k, LeO (assessorref26_Normal.f k a0) (assessorref26_Normal.f (k + 1) a0) := by
 intro a0 k
 obtain ⟨ih0, ih1, ih2, ih3, ih4⟩ := assessorref26_Normal.mono_l k
 unfold assessorref26_Normal.f
 repeat' first
   | (with_reducible exact ih0 _ _ _)
   | (with_reducible exact ih1 _ _ _ _)
   | (with_reducible exact ih2 _ _ _ _)
   | (with_reducible exact ih3 _ _ _ _ _)
   | (with_reducible exact ih4 _ _ _ _)
   | (with_reducible exact LeO.refl _)
   | (with_reducible exact LeO.none _)
   | (with_reducible refine LeO.ite ?_ ?_)
   | (with_reducible refine LeO.bind ?_ (fun _ => ?_))
   | exact ih0 _ _ _
   | exact ih1 _ _ _ _
   | exact ih2 _ _ _ _
   | exact ih3 _ _ _ _ _
   | exact ih4 _ _ _ _
   | exact LeO.none _
   | refine LeO.ite ?_ ?_
   | refine LeO.bind ?_ (fun _ => ?_)
set_option maxHeartbeats 8000000 in
set_option maxRecDepth 100000 in
theorem assessorref26_Normal.calls (k : Nat) (A0 : Option Addr) (c0 : Nat) (l0 : List Int) (r1 : List Int) (r2 : Bool) (w : World) (hr0 : Kd.C (Kd.int .i64) w A0 l0.length l0) (hc0 : l0.length ≤ c0) (h : assessorref26_Normal.f k l0 = some (r1, r2)) :
  Calls Tryz.prog 13 #[.slice A0 l0.length c0] w fun e w' => ∃ v0_ : Value, e = .returned (.tuple #[v0_, .bool r2]) ∧ Kd.R (Kd.int .i64) 3 w' w.heap.size (fun _ => True) v0_ r1 ∧ Below w.heap.size w w' := by
 have HR0 := Aside0.mk hr0
 have HC0 := Aside0.mk hc0
 clear hr0 hc0
 have HB := Aside0.mk (Below.refl w.heap.size w)
 have H : (assessorref26_Normal.l0 k l0 (([] : List Int)) 0) = some (r1, r2) := h
 clear h
 obtain ⟨y140, hy140⟩ : ∃ y_ : List Int, y_ = (([] : List Int)) := ⟨_, rfl⟩
 replace H : (assessorref26_Normal.l0 k l0 y140 0) = some (r1, r2) := by first | (rw [hy140]; with_reducible exact H) | (have H2_ := (Option.bind_some _ _).symm.trans H; rw [hy140]; with_reducible exact H2_) | (have H2_ := (Option.bind_some _ _).symm.trans H; with_reducible exact H2_) | with_reducible exact H | (rw [hy140]; exact H) | exact H
 have Ny140 := Aside0.mk hy140
 clear hy140
 have H' := Aside0.mk H
 clear H
 go_enter Tryz.func13, Tryz.ntmps13
 go_wp2_with (first | ((with_reducible refine gate_dst (N := 8) rfl ?_); refine Kd.R_lit (Kd.int .i64) _ 3 ?hg (N := 8) ?hd (xs := ([] : List Int)) (inner := []) (ok := fun _ => True) (okp := fun _ => True) ?hr ?hp (fun _ hk => hk) trivial (Below.refl _ _) (Nat.le_refl _) (by simp) ?_; (case hd => rfl); (case hg => rfl); (case hr => first | (go_simp; done) | (go_simp; rfl)); (case hp => exact (Reps.none _ _)); intro v141 w2 ho3 hb hg_ hnew_; clear hg_ hnew_; (first | rw [← Ny140.out] at ho3 | (simp only [Int.reduceToNat] at ho3; rw [← Ny140.out] at ho3)); have n0_ := Aside0.mk (Kd.R_lower ho3 (below_size (by repeat (first | (with_reducible first | exact HB.out | apply below_alloc | apply pw_below_drewN | apply below_drew1) | exact HB.out)))); have n1_ := Aside0.mk (below_step (by repeat (first | (with_reducible first | exact HB.out | apply below_alloc | apply pw_below_drewN | apply below_drew1) | exact HB.out)) hb); clear HB; have HO142 := n0_; have HB := n1_; clear n0_ n1_; clear hb ho3))
 repeat (go_quiet (first | ((with_reducible refine gate_dst (N := 8) rfl ?_); refine Kd.R_lit (Kd.int .i64) _ 3 ?hg (N := 8) ?hd (xs := ([] : List Int)) (inner := []) (ok := fun _ => True) (okp := fun _ => True) ?hr ?hp (fun _ hk => hk) trivial (Below.refl _ _) (Nat.le_refl _) (by simp) ?_; (case hd => rfl); (case hg => rfl); (case hr => first | (go_simp; done) | (go_simp; rfl)); (case hp => exact (Reps.none _ _)); intro v141 w2 ho3 hb hg_ hnew_; clear hg_ hnew_; (first | rw [← Ny140.out] at ho3 | (simp only [Int.reduceToNat] at ho3; rw [← Ny140.out] at ho3)); have n0_ := Aside0.mk (Kd.R_lower ho3 (below_size (by repeat (first | (with_reducible first | exact HB.out | apply below_alloc | apply pw_below_drewN | apply below_drew1) | exact HB.out)))); have n1_ := Aside0.mk (below_step (by repeat (first | (with_reducible first | exact HB.out | apply below_alloc | apply pw_below_drewN | apply below_drew1) | exact HB.out)) hb); clear HB; have HO142 := n0_; have HB := n1_; clear n0_ n1_; clear hb ho3)); try go_wp2_with (first | ((with_reducible refine gate_dst (N := 8) rfl ?_); refine Kd.R_lit (Kd.int .i64) _ 3 ?hg (N := 8) ?hd (xs := ([] : List Int)) (inner := []) (ok := fun _ => True) (okp := fun _ => True) ?hr ?hp (fun _ hk => hk) trivial (Below.refl _ _) (Nat.le_refl _) (by simp) ?_; (case hd => rfl); (case hg => rfl); (case hr => first | (go_simp; done) | (go_simp; rfl)); (case hp => exact (Reps.none _ _)); intro v141 w2 ho3 hb hg_ hnew_; clear hg_ hnew_; (first | rw [← Ny140.out] at ho3 | (simp only [Int.reduceToNat] at ho3; rw [← Ny140.out] at ho3)); have n0_ := Aside0.mk (Kd.R_lower ho3 (below_size (by repeat (first | (with_reducible first | exact HB.out | apply below_alloc | apply pw_below_drewN | apply below_drew1) | exact HB.out)))); have n1_ := Aside0.mk (below_step (by repeat (first | (with_reducible first | exact HB.out | apply below_alloc | apply pw_below_drewN | apply below_drew1) | exact HB.out)) hb); clear HB; have HO142 := n0_; have HB := n1_; clear n0_ n1_; clear hb ho3)))
 go_loopg [4, 5] k (fun kq v4 v5 w' => ∃ (x4_1 : List Int) (x5_1 : Int), v5 = .int .i64 x5_1 ∧ Aside0 (assessorref26_Normal.l0 kq l0 x4_1 x5_1 = some (r1, r2)) ∧ Aside0 (kq ≤ k) ∧ Aside0 (Kd.R (Kd.int .i64) 3 w' w.heap.size (fun _ => True) v4 x4_1) ∧ Aside0 (Below w.heap.size w w'))
 case atStart => exact ⟨(y140), (0), (by first | rfl | (simp; done) | (simp [*]; done)), H', ⟨Nat.le_refl _⟩, ⟨by (with_reducible repeat (first | apply Kd.R_alloc | apply Kd.R_drewN | apply Kd.R_drew)); exact HO142.out⟩, ⟨by repeat (first | (with_reducible first | exact HB.out | apply below_alloc | apply pw_below_drewN | apply below_drew1) | exact HB.out)⟩⟩
 case round =>
  clear H'
  try clear c1
  try clear p2
  obtain ⟨x4_1, x5_1, rfl, HA, HK1, HO_4, HB⟩ := hrel
  cases gk with
  | zero => exact absurd HA.out (by simp [assessorref26_Normal.l0])
  | succ k1 =>
   have H := HA.out
   clear HA
   simp only [assessorref26_Normal.l0] at H
   by_cases c4 : x5_1 < (l0.length : Int)
   ·rw [if_pos c4] at H
    have c4b0 : decide (x5_1 < (l0.length : Int)) = true := decide_eq_true c4
    clear c4
    have HC5 := Aside0.mk H
    clear H
    go_upto_region 5 with (fail)
    repeat (go_quiet (fail); go_upto_region 5 with (fail))
    go_cut [33] (fun v33 wc => ∃ (kq : Nat) (x33_4 : Bool), v33 = .bool x33_4 ∧ Aside0 (assessorref26_Normal.j1 kq l0 x4_1 x5_1 x33_4 = some (r1, r2)) ∧ Aside0 (kq ≤ k1) ∧ Aside0 (Kd.R (Kd.int .i64) 3 wc w.heap.size (fun _ => True) u4 x4_1) ∧ Aside0 (Below w.heap.size w wc))
    case first =>
     have H := HC5.out
     clear HC5
     by_cases c6 : 0 ≤ x5_1
     ·rw [if_pos c6] at H
      have c6b0 : decide (0 ≤ x5_1) = true := decide_eq_true c6
      clear c6
      (first | rw [c6b0] | (simp only [i64_w, i32_w]; rw [c6b0]) | skip)
      by_cases c7 : (rd l0 x5_1) = 0
      ·rw [if_pos c7] at H
       have c7b0 : ((rd l0 x5_1) == 0) = true := beq_iff_eq.mpr c7
       have c7b1 : ((rd l0 x5_1) != 0) = false := bne_eq_false_iff_eq.mpr c7
       clear c7
       have H' := Aside0.mk H
       clear H
       have p143 : 0 ≤ (x5_1 : Int) := of_decide_eq_true (by first | (with_reducible assumption) | assumption)
       have q143 : x5_1 < (l0.length : Int) := of_decide_eq_true (by first | (with_reducible assumption) | assumption)
       obtain ⟨ad143, e143, hx143_0⟩ := Kd.at_int HR0.out x5_1 p143 q143
       cases e143
       replace hx143_0 := (HB.out.cell (World.block_lt_of_cell? w _ hx143_0)).trans hx143_0
       replace p143 := eq_true p143
       replace q143 := eq_true q143
       go_wp2
       repeat (go_quiet (fail); try go_wp2)
       go_meet
       case rel => exact ⟨_, (true), (by first | rfl | (simp; done) | (simp [*]; done)), H', ⟨by have := HK1.out; first | omega | exact Nat.le_refl _⟩, ⟨by (with_reducible repeat (first | apply Kd.R_alloc | apply Kd.R_drewN | apply Kd.R_drew)); exact HO_4.out⟩, ⟨by repeat (first | (with_reducible first | exact HB.out | apply below_alloc | apply pw_below_drewN | apply below_drew1) | exact HB.out)⟩⟩
      ·rw [if_neg c7] at H
       have c7b0 : ((rd l0 x5_1) == 0) = false := beq_eq_false_iff_ne.mpr c7
       have c7b1 : ((rd l0 x5_1) != 0) = true := bne_iff_ne.mpr c7
       by_cases c8 : (rd l0 x5_1) < (-1073741824)
       ·rw [if_pos c8] at H
        have c8b0 : decide ((rd l0 x5_1) < (-1073741824)) = true := decide_eq_true c8
        clear c8
        have H' := Aside0.mk H
        clear H
        have p143 : 0 ≤ (x5_1 : Int) := of_decide_eq_true (by first | (with_reducible assumption) | assumption)
        have q143 : x5_1 < (l0.length : Int) := of_decide_eq_true (by first | (with_reducible assumption) | assumption)
        obtain ⟨ad143, e143, hx143_0⟩ := Kd.at_int HR0.out x5_1 p143 q143
        cases e143
        replace hx143_0 := (HB.out.cell (World.block_lt_of_cell? w _ hx143_0)).trans hx143_0
        replace p143 := eq_true p143
        replace q143 := eq_true q143
        have p144 : 0 ≤ (x5_1 : Int) := of_decide_eq_true (by first | (with_reducible assumption) | assumption)
        have q144 : x5_1 < (l0.length : Int) := of_decide_eq_true (by first | (with_reducible assumption) | assumption)
        obtain ⟨ad144, e144, hx144_0⟩ := Kd.at_int HR0.out x5_1 p144 q144
        obtain rfl : ad143 = ad144 := (by injection e144)
        replace hx144_0 := (HB.out.cell (World.block_lt_of_cell? w _ hx144_0)).trans hx144_0
        replace p144 := eq_true p144
        replace q144 := eq_true q144
        go_wp2
        repeat (go_quiet (fail); try go_wp2)
        go_meet
        case rel => exact ⟨_, (true), (by first | rfl | (simp; done) | (simp [*]; done)), H', ⟨by have := HK1.out; first | omega | exact Nat.le_refl _⟩, ⟨by (with_reducible repeat (first | apply Kd.R_alloc | apply Kd.R_drewN | apply Kd.R_drew)); exact HO_4.out⟩, ⟨by repeat (first | (with_reducible first | exact HB.out | apply below_alloc | apply pw_below_drewN | apply below_drew1) | exact HB.out)⟩⟩
       ·rw [if_neg c8] at H
        have c8b0 : decide ((rd l0 x5_1) < (-1073741824)) = false := decide_eq_false c8
        clear c8
        have H' := Aside0.mk H
        clear H
        have p143 : 0 ≤ (x5_1 : Int) := of_decide_eq_true (by first | (with_reducible assumption) | assumption)
        have q143 : x5_1 < (l0.length : Int) := of_decide_eq_true (by first | (with_reducible assumption) | assumption)
        obtain ⟨ad143, e143, hx143_0⟩ := Kd.at_int HR0.out x5_1 p143 q143
        cases e143
        replace hx143_0 := (HB.out.cell (World.block_lt_of_cell? w _ hx143_0)).trans hx143_0
        replace p143 := eq_true p143
        replace q143 := eq_true q143
        have p144 : 0 ≤ (x5_1 : Int) := of_decide_eq_true (by first | (with_reducible assumption) | assumption)
        have q144 : x5_1 < (l0.length : Int) := of_decide_eq_true (by first | (with_reducible assumption) | assumption)
        obtain ⟨ad144, e144, hx144_0⟩ := Kd.at_int HR0.out x5_1 p144 q144
        obtain rfl : ad143 = ad144 := (by injection e144)
        replace hx144_0 := (HB.out.cell (World.block_lt_of_cell? w _ hx144_0)).trans hx144_0
        replace p144 := eq_true p144
        replace q144 := eq_true q144
        have p145 : 0 ≤ (x5_1 : Int) := of_decide_eq_true (by first | (with_reducible assumption) | assumption)
        have q145 : x5_1 < (l0.length : Int) := of_decide_eq_true (by first | (with_reducible assumption) | assumption)
        obtain ⟨ad145, e145, hx145_0⟩ := Kd.at_int HR0.out x5_1 p145 q145
        obtain rfl : ad143 = ad145 := (by injection e145)
        replace hx145_0 := (HB.out.cell (World.block_lt_of_cell? w _ hx145_0)).trans hx145_0
        replace p145 := eq_true p145
        replace q145 := eq_true q145
        go_wp2
        repeat (go_quiet (fail); try go_wp2)
        go_meet
        case rel => exact ⟨_, (decide ((rd l0 x5_1) > 1073741824)), (by first | rfl | (simp; done) | (simp [*]; done)), H', ⟨by have := HK1.out; first | omega | exact Nat.le_refl _⟩, ⟨by (with_reducible repeat (first | apply Kd.R_alloc | apply Kd.R_drewN | apply Kd.R_drew)); exact HO_4.out⟩, ⟨by repeat (first | (with_reducible first | exact HB.out | apply below_alloc | apply pw_below_drewN | apply below_drew1) | exact HB.out)⟩⟩
     ·rw [if_neg c6] at H
      exact absurd H (by simp)
    case rest =>
     clear HC5
     try clear c1
     try clear p1
     try clear q1
     try clear hx1
     try clear p2
     try clear c4
     try clear c4b0
     try clear c6
     try clear c6b0
     try clear c7
     try clear c7b0
     try clear c7b1
     try clear c8
     try clear c8b0
     try clear hx143_0
     try clear hx144_0
     try clear hx145_0
     try clear p143
     try clear p144
     try clear p145
     try clear p2
     try clear q143
     try clear q144
     try clear q145
     obtain ⟨kq, x33_4, rfl, HA, HJ4, HO_4, HB⟩ := hcut
     cases kq with
     | zero => exact absurd HA.out (by simp [assessorref26_Normal.j1])
     | succ kj4 =>
      have H := HA.out
      clear HA
      simp only [assessorref26_Normal.j1] at H
      by_cases c9 : x33_4 = true
      ·subst c9
       have H1 : (some (([] : List Int), false)) = some (r1, r2) := by rw [if_pos rfl] at H; exact H
       clear H
       have H := H1
       clear H1
       simp only [Option.some.injEq, Prod.mk.injEq] at H
       obtain ⟨rfl, rfl⟩ := H
       go_wp2
       repeat (go_quiet (fail); try go_wp2)
       go_ret2
       exact ⟨_, by first | rfl | (simp [errW_none, errW_some] <;> rfl) | (simp [*, errW_none, errW_some] <;> rfl), by first | exact Kd.R_nil _ _ _ _ _ | exact Kd.N_nil _ _ _ _ _ | exact Kd.V_nil _ _ _ _ _ | exact Kd.Q_nil _ _ _ _ _ | exact Kd.S_nil _ _ _ _ _, by repeat (first | (with_reducible first | exact HB.out | apply below_alloc | apply pw_below_drewN | apply below_drew1) | exact HB.out)⟩
      ·replace c9 := Bool.eq_false_iff.mpr c9
       subst c9
       have H1 : (assessorref26_Normal.l1 kj4 l0 x4_1 x5_1 0) = some (r1, r2) := by rw [if_neg (show ¬ (false = true) by decide)] at H; exact H
       clear H
       have H := H1
       clear H1
       have HC10 := Aside0.mk H
       clear H
       go_upto_block 2 with (fail)
       repeat (go_quiet (fail); go_upto_block 2 with (fail))
       go_cut [6] (fun v6 wc => ∃ (kq : Nat) (x6_9 : Int), v6 = .int .i64 x6_9 ∧ Aside0 (assessorref26_Normal.j3 kq l0 x4_1 x5_1 x6_9 = some (r1, r2)) ∧ Aside0 (kq ≤ kj4) ∧ Aside0 (Kd.R (Kd.int .i64) 3 wc w.heap.size (fun _ => True) u4 x4_1) ∧ Aside0 (Below w.heap.size w wc))
       case first =>
        have H := HC10.out
        clear HC10
        have H' := Aside0.mk H
        clear H
        go_wp2
        repeat (go_quiet (fail); try go_wp2)
        go_loopg [6] kj4 (fun kq v6 w' => ∃ (x6_3 : Int), v6 = .int .i64 x6_3 ∧ Aside0 (assessorref26_Normal.l1 kq l0 x4_1 x5_1 x6_3 = some (r1, r2)) ∧ Aside0 (kq ≤ kj4) ∧ Aside0 (Kd.R (Kd.int .i64) 3 w' w.heap.size (fun _ => True) u4 x4_1) ∧ Aside0 (Below w.heap.size w w'))
        case atStart => exact ⟨(0), (by first | rfl | (simp; done) | (simp [*]; done)), H', ⟨Nat.le_refl _⟩, ⟨by (with_reducible repeat (first | apply Kd.R_alloc | apply Kd.R_drewN | apply Kd.R_drew)); exact HO_4.out⟩, ⟨by repeat (first | (with_reducible first | exact HB.out | apply below_alloc | apply pw_below_drewN | apply below_drew1) | exact HB.out)⟩⟩
        case round =>
         clear H'
         try clear c1
         try clear p1
         try clear q1
         try clear hx1
         try clear p2
         try clear c4
         try clear c4b0
         try clear c6
         try clear c6b0
         try clear c7
         try clear c7b0
         try clear c7b1
         try clear c8
         try clear c8b0
         try clear c9
         try clear hx143_0
         try clear hx144_0
         try clear hx145_0
         try clear p1
         try clear p143
         try clear p144
         try clear p145
         try clear p2
         try clear q1
         try clear q143
         try clear q144
         try clear q145
         obtain ⟨x6_3, rfl, HA, HK3, HO_4, HB⟩ := hrel
         cases gk with
         | zero => exact absurd HA.out (by simp [assessorref26_Normal.l1])
         | succ k3 =>
          have H := HA.out
          clear HA
          simp only [assessorref26_Normal.l1] at H
          by_cases c11 : x6_3 < (x4_1.length : Int)
          ·rw [if_pos c11] at H
           have c11b0 : decide (x6_3 < (x4_1.length : Int)) = true := decide_eq_true c11
           clear c11
           (first | rw [c11b0] | (simp only [i64_w, i32_w]; rw [c11b0]) | skip)
           by_cases c12 : 0 ≤ x6_3
           ·rw [if_pos c12] at H
            have c12b0 : decide (0 ≤ x6_3) = true := decide_eq_true c12
            clear c12
            replace H := Option.bind_eq_some_iff.mp H
            obtain ⟨t147, A130, H⟩ := H
            replace H : (if 0 ≤ x5_1 then (if x5_1 < (l0.length : Int) then ((assessorref26_Variable.f (rd l0 x5_1)).bind fun t149 => (if t147 < t149 then (assessorref26_Normal.l1 k3 l0 x4_1 x5_1 (wrap64 (x6_3 + 1))) else (assessorref26_Normal.j3 k3 l0 x4_1 x5_1 x6_3))) else (none)) else (none)) = some (r1, r2) := H
            have A13 := Aside0.mk A130
            clear A130
            by_cases c14 : 0 ≤ x5_1
            ·rw [if_pos c14] at H
             have c14b0 : decide (0 ≤ x5_1) = true := decide_eq_true c14
             clear c14
             by_cases c15 : x5_1 < (l0.length : Int)
             ·rw [if_pos c15] at H
              have c15b0 : decide (x5_1 < (l0.length : Int)) = true := decide_eq_true c15
              clear c15
              replace H := Option.bind_eq_some_iff.mp H
              obtain ⟨t149, A160, H⟩ := H
              replace H : (if t147 < t149 then (assessorref26_Normal.l1 k3 l0 x4_1 x5_1 (wrap64 (x6_3 + 1))) else (assessorref26_Normal.j3 k3 l0 x4_1 x5_1 x6_3)) = some (r1, r2) := H
              have A16 := Aside0.mk A160
              clear A160
              by_cases c17 : t147 < t149
              ·rw [if_pos c17] at H
               have c17b0 : decide (t147 < t149) = true := decide_eq_true c17
               clear c17
               have H' := Aside0.mk H
               clear H
               obtain ⟨Ao18, co18, eo18⟩ := Kd.R_slice HO_4.out
               subst eo18
               have p146 : 0 ≤ (x6_3 : Int) := of_decide_eq_true (by first | (with_reducible assumption) | assumption)
               have q146 : x6_3 < (x4_1.length : Int) := of_decide_eq_true (by first | (with_reducible assumption) | assumption)
               obtain ⟨ad146, e146, hx146_0⟩ := Kd.at_int (Kd.R_reads' HO_4.out).2.2 x6_3 p146 q146
               cases e146
               replace p146 := eq_true p146
               replace q146 := eq_true q146
               go_wp2_with (first | (go_at_call 31; (with_reducible refine (assessorref26_Variable.calls (rd x4_1 x6_3) t147 _ A13.out).mono ?_); rintro e w' ⟨rfl, ⟨nd, rfl⟩⟩; (try first | exact ⟨rfl, _, World.drewN_drewN _ _ _⟩ | exact ⟨rfl, _, Eq.trans (World.drewN_drewN _ _ _) (congrArg (World.drewN _) (Nat.add_assoc _ _ _))⟩); have p148 : 0 ≤ (x5_1 : Int) := of_decide_eq_true (by first | (with_reducible assumption) | assumption); have q148 : x5_1 < (l0.length : Int) := of_decide_eq_true (by first | (with_reducible assumption) | assumption); obtain ⟨ad148, e148, hx148_0⟩ := Kd.at_int HR0.out x5_1 p148 q148; cases e148; replace hx148_0 := (HB.out.cell (World.block_lt_of_cell? w _ hx148_0)).trans hx148_0; replace p148 := eq_true p148; replace q148 := eq_true q148) | (go_at_call 31; (with_reducible refine (assessorref26_Variable.calls (rd l0 x5_1) t149 _ A16.out).mono ?_); rintro e w' ⟨rfl, ⟨nd, rfl⟩⟩; (try first | exact ⟨rfl, _, World.drewN_drewN _ _ _⟩ | exact ⟨rfl, _, Eq.trans (World.drewN_drewN _ _ _) (congrArg (World.drewN _) (Nat.add_assoc _ _ _))⟩)))
               repeat (go_quiet (first | (go_at_call 31; (with_reducible refine (assessorref26_Variable.calls (rd x4_1 x6_3) t147 _ A13.out).mono ?_); rintro e w' ⟨rfl, ⟨nd, rfl⟩⟩; (try first | exact ⟨rfl, _, World.drewN_drewN _ _ _⟩ | exact ⟨rfl, _, Eq.trans (World.drewN_drewN _ _ _) (congrArg (World.drewN _) (Nat.add_assoc _ _ _))⟩); have p148 : 0 ≤ (x5_1 : Int) := of_decide_eq_true (by first | (with_reducible assumption) | assumption); have q148 : x5_1 < (l0.length : Int) := of_decide_eq_true (by first | (with_reducible assumption) | assumption); obtain ⟨ad148, e148, hx148_0⟩ := Kd.at_int HR0.out x5_1 p148 q148; cases e148; replace hx148_0 := (HB.out.cell (World.block_lt_of_cell? w _ hx148_0)).trans hx148_0; replace p148 := eq_true p148; replace q148 := eq_true q148) | (go_at_call 31; (with_reducible refine (assessorref26_Variable.calls (rd l0 x5_1) t149 _ A16.out).mono ?_); rintro e w' ⟨rfl, ⟨nd, rfl⟩⟩; (try first | exact ⟨rfl, _, World.drewN_drewN _ _ _⟩ | exact ⟨rfl, _, Eq.trans (World.drewN_drewN _ _ _) (congrArg (World.drewN _) (Nat.add_assoc _ _ _))⟩))); try go_wp2_with (first | (go_at_call 31; (with_reducible refine (assessorref26_Variable.calls (rd x4_1 x6_3) t147 _ A13.out).mono ?_); rintro e w' ⟨rfl, ⟨nd, rfl⟩⟩; (try first | exact ⟨rfl, _, World.drewN_drewN _ _ _⟩ | exact ⟨rfl, _, Eq.trans (World.drewN_drewN _ _ _) (congrArg (World.drewN _) (Nat.add_assoc _ _ _))⟩); have p148 : 0 ≤ (x5_1 : Int) := of_decide_eq_true (by first | (with_reducible assumption) | assumption); have q148 : x5_1 < (l0.length : Int) := of_decide_eq_true (by first | (with_reducible assumption) | assumption); obtain ⟨ad148, e148, hx148_0⟩ := Kd.at_int HR0.out x5_1 p148 q148; cases e148; replace hx148_0 := (HB.out.cell (World.block_lt_of_cell? w _ hx148_0)).trans hx148_0; replace p148 := eq_true p148; replace q148 := eq_true q148) | (go_at_call 31; (with_reducible refine (assessorref26_Variable.calls (rd l0 x5_1) t149 _ A16.out).mono ?_); rintro e w' ⟨rfl, ⟨nd, rfl⟩⟩; (try first | exact ⟨rfl, _, World.drewN_drewN _ _ _⟩ | exact ⟨rfl, _, Eq.trans (World.drewN_drewN _ _ _) (congrArg (World.drewN _) (Nat.add_assoc _ _ _))⟩))))
               go_roundg k3
               case measure => have := HK1.out; have := HJ4.out; have := HK3.out; omega
               case rel => exact ⟨(wrap64 (x6_3 + 1)), (by first | rfl | (simp; done) | (simp [*]; done)), H', ⟨by have := HK1.out; have := HJ4.out; have := HK3.out; omega⟩, ⟨by (with_reducible repeat (first | apply Kd.R_alloc | apply Kd.R_drewN | apply Kd.R_drew)); exact HO_4.out⟩, ⟨by repeat (first | (with_reducible first | exact HB.out | apply below_alloc | apply pw_below_drewN | apply below_drew1) | exact HB.out)⟩⟩
              ·rw [if_neg c17] at H
               have c17b0 : decide (t147 < t149) = false := decide_eq_false c17
               clear c17
               have H' := Aside0.mk H
               clear H
               obtain ⟨Ao19, co19, eo19⟩ := Kd.R_slice HO_4.out
               subst eo19
               have p146 : 0 ≤ (x6_3 : Int) := of_decide_eq_true (by first | (with_reducible assumption) | assumption)
               have q146 : x6_3 < (x4_1.length : Int) := of_decide_eq_true (by first | (with_reducible assumption) | assumption)
               obtain ⟨ad146, e146, hx146_0⟩ := Kd.at_int (Kd.R_reads' HO_4.out).2.2 x6_3 p146 q146
               cases e146
               replace p146 := eq_true p146
               replace q146 := eq_true q146
               go_wp2_with (first | (go_at_call 31; (with_reducible refine (assessorref26_Variable.calls (rd x4_1 x6_3) t147 _ A13.out).mono ?_); rintro e w' ⟨rfl, ⟨nd, rfl⟩⟩; (try first | exact ⟨rfl, _, World.drewN_drewN _ _ _⟩ | exact ⟨rfl, _, Eq.trans (World.drewN_drewN _ _ _) (congrArg (World.drewN _) (Nat.add_assoc _ _ _))⟩); have p148 : 0 ≤ (x5_1 : Int) := of_decide_eq_true (by first | (with_reducible assumption) | assumption); have q148 : x5_1 < (l0.length : Int) := of_decide_eq_true (by first | (with_reducible assumption) | assumption); obtain ⟨ad148, e148, hx148_0⟩ := Kd.at_int HR0.out x5_1 p148 q148; cases e148; replace hx148_0 := (HB.out.cell (World.block_lt_of_cell? w _ hx148_0)).trans hx148_0; replace p148 := eq_true p148; replace q148 := eq_true q148) | (go_at_call 31; (with_reducible refine (assessorref26_Variable.calls (rd l0 x5_1) t149 _ A16.out).mono ?_); rintro e w' ⟨rfl, ⟨nd, rfl⟩⟩; (try first | exact ⟨rfl, _, World.drewN_drewN _ _ _⟩ | exact ⟨rfl, _, Eq.trans (World.drewN_drewN _ _ _) (congrArg (World.drewN _) (Nat.add_assoc _ _ _))⟩)))
               repeat (go_quiet (first | (go_at_call 31; (with_reducible refine (assessorref26_Variable.calls (rd x4_1 x6_3) t147 _ A13.out).mono ?_); rintro e w' ⟨rfl, ⟨nd, rfl⟩⟩; (try first | exact ⟨rfl, _, World.drewN_drewN _ _ _⟩ | exact ⟨rfl, _, Eq.trans (World.drewN_drewN _ _ _) (congrArg (World.drewN _) (Nat.add_assoc _ _ _))⟩); have p148 : 0 ≤ (x5_1 : Int) := of_decide_eq_true (by first | (with_reducible assumption) | assumption); have q148 : x5_1 < (l0.length : Int) := of_decide_eq_true (by first | (with_reducible assumption) | assumption); obtain ⟨ad148, e148, hx148_0⟩ := Kd.at_int HR0.out x5_1 p148 q148; cases e148; replace hx148_0 := (HB.out.cell (World.block_lt_of_cell? w _ hx148_0)).trans hx148_0; replace p148 := eq_true p148; replace q148 := eq_true q148) | (go_at_call 31; (with_reducible refine (assessorref26_Variable.calls (rd l0 x5_1) t149 _ A16.out).mono ?_); rintro e w' ⟨rfl, ⟨nd, rfl⟩⟩; (try first | exact ⟨rfl, _, World.drewN_drewN _ _ _⟩ | exact ⟨rfl, _, Eq.trans (World.drewN_drewN _ _ _) (congrArg (World.drewN _) (Nat.add_assoc _ _ _))⟩))); try go_wp2_with (first | (go_at_call 31; (with_reducible refine (assessorref26_Variable.calls (rd x4_1 x6_3) t147 _ A13.out).mono ?_); rintro e w' ⟨rfl, ⟨nd, rfl⟩⟩; (try first | exact ⟨rfl, _, World.drewN_drewN _ _ _⟩ | exact ⟨rfl, _, Eq.trans (World.drewN_drewN _ _ _) (congrArg (World.drewN _) (Nat.add_assoc _ _ _))⟩); have p148 : 0 ≤ (x5_1 : Int) := of_decide_eq_true (by first | (with_reducible assumption) | assumption); have q148 : x5_1 < (l0.length : Int) := of_decide_eq_true (by first | (with_reducible assumption) | assumption); obtain ⟨ad148, e148, hx148_0⟩ := Kd.at_int HR0.out x5_1 p148 q148; cases e148; replace hx148_0 := (HB.out.cell (World.block_lt_of_cell? w _ hx148_0)).trans hx148_0; replace p148 := eq_true p148; replace q148 := eq_true q148) | (go_at_call 31; (with_reducible refine (assessorref26_Variable.calls (rd l0 x5_1) t149 _ A16.out).mono ?_); rintro e w' ⟨rfl, ⟨nd, rfl⟩⟩; (try first | exact ⟨rfl, _, World.drewN_drewN _ _ _⟩ | exact ⟨rfl, _, Eq.trans (World.drewN_drewN _ _ _) (congrArg (World.drewN _) (Nat.add_assoc _ _ _))⟩))))
               go_meet
               case rel => exact ⟨_, (x6_3), (by first | rfl | (simp; done) | (simp [*]; done)), H', ⟨by have := HK1.out; have := HJ4.out; have := HK3.out; first | omega | exact Nat.le_refl _⟩, ⟨by (with_reducible repeat (first | apply Kd.R_alloc | apply Kd.R_drewN | apply Kd.R_drew)); exact HO_4.out⟩, ⟨by repeat (first | (with_reducible first | exact HB.out | apply below_alloc | apply pw_below_drewN | apply below_drew1) | exact HB.out)⟩⟩
             ·rw [if_neg c15] at H
              exact absurd H (by simp)
            ·rw [if_neg c14] at H
             exact absurd H (by simp)
           ·rw [if_neg c12] at H
            exact absurd H (by simp)
          ·rw [if_neg c11] at H
           have c11b0 : decide (x6_3 < (x4_1.length : Int)) = false := decide_eq_false c11
           clear c11
           (first | rw [c11b0] | (simp only [i64_w, i32_w]; rw [c11b0]) | skip)
           have H' := Aside0.mk H
           clear H
           obtain ⟨Ao20, co20, eo20⟩ := Kd.R_slice HO_4.out
           subst eo20
           go_wp2
           repeat (go_quiet (fail); try go_wp2)
           go_meet
           case rel => exact ⟨_, (x6_3), (by first | rfl | (simp; done) | (simp [*]; done)), H', ⟨by have := HK1.out; have := HJ4.out; have := HK3.out; first | omega | exact Nat.le_refl _⟩, ⟨by (with_reducible repeat (first | apply Kd.R_alloc | apply Kd.R_drewN | apply Kd.R_drew)); exact HO_4.out⟩, ⟨by repeat (first | (with_reducible first | exact HB.out | apply below_alloc | apply pw_below_drewN | apply below_drew1) | exact HB.out)⟩⟩
       case rest =>
        clear HC10
        try clear c1
        try clear p1
        try clear q1
        try clear hx1
        try clear p2
        try clear c4
        try clear c4b0
        try clear c6
        try clear c6b0
        try clear p6
        try clear c7
        try clear c7b0
        try clear c7b1
        try clear c8
        try clear c8b0
        try clear c9
        try clear c11
        try clear c11b0
        try clear c12
        try clear c12b0
        try clear c13
        try clear c14
        try clear c14b0
        try clear p14
        try clear q14
        try clear hx14
        try clear c15
        try clear c15b0
        try clear c17
        try clear c17b0
        try clear hx143_0
        try clear hx144_0
        try clear hx145_0
        try clear hx146_0
        try clear hx148_0
        try clear p1
        try clear p143
        try clear p144
        try clear p145
        try clear p146
        try clear p148
        try clear p2
        try clear q1
        try clear q143
        try clear q144
        try clear q145
        try clear q146
        try clear q148
        obtain ⟨kq, x6_9, rfl, HA, HJ9, HO_4, HB⟩ := hcut
        cases kq with
        | zero => exact absurd HA.out (by simp [assessorref26_Normal.j3])
        | succ kj9 =>
         have H := HA.out
         clear HA
         simp only [assessorref26_Normal.j3] at H
         have HC21 := Aside0.mk H
         clear H
         go_upto_region 10 with (fail)
         repeat (go_quiet (fail); go_upto_region 10 with (fail))
         go_cut [68] (fun v68 wc => ∃ (kq : Nat) (x68_20 : Bool), v68 = .bool x68_20 ∧ Aside0 (assessorref26_Normal.j4 kq l0 x4_1 x5_1 x6_9 x68_20 = some (r1, r2)) ∧ Aside0 (kq ≤ kj9) ∧ Aside0 (Kd.R (Kd.int .i64) 3 wc w.heap.size (fun _ => True) u4 x4_1) ∧ Aside0 (Below w.heap.size w wc))
         case first =>
          have H := HC21.out
          clear HC21
          by_cases c22 : x6_9 < (x4_1.length : Int)
          ·rw [if_pos c22] at H
           have c22b0 : decide (x6_9 < (x4_1.length : Int)) = true := decide_eq_true c22
           clear c22
           (first | rw [c22b0] | (simp only [i64_w, i32_w]; rw [c22b0]) | skip)
           by_cases c23 : 0 ≤ x6_9
           ·rw [if_pos c23] at H
            have c23b0 : decide (0 ≤ x6_9) = true := decide_eq_true c23
            clear c23
            by_cases c24 : 0 ≤ x5_1
            ·rw [if_pos c24] at H
             have c24b0 : decide (0 ≤ x5_1) = true := decide_eq_true c24
             clear c24
             by_cases c25 : x5_1 < (l0.length : Int)
             ·rw [if_pos c25] at H
              have c25b0 : decide (x5_1 < (l0.length : Int)) = true := decide_eq_true c25
              clear c25
              have H' := Aside0.mk H
              clear H
              obtain ⟨Ao26, co26, eo26⟩ := Kd.R_slice HO_4.out
              subst eo26
              have p150 : 0 ≤ (x6_9 : Int) := of_decide_eq_true (by first | (with_reducible assumption) | assumption)
              have q150 : x6_9 < (x4_1.length : Int) := of_decide_eq_true (by first | (with_reducible assumption) | assumption)
              obtain ⟨ad150, e150, hx150_0⟩ := Kd.at_int (Kd.R_reads' HO_4.out).2.2 x6_9 p150 q150
              cases e150
              replace p150 := eq_true p150
              replace q150 := eq_true q150
              have p151 : 0 ≤ (x5_1 : Int) := of_decide_eq_true (by first | (with_reducible assumption) | assumption)
              have q151 : x5_1 < (l0.length : Int) := of_decide_eq_true (by first | (with_reducible assumption) | assumption)
              obtain ⟨ad151, e151, hx151_0⟩ := Kd.at_int HR0.out x5_1 p151 q151
              cases e151
              replace hx151_0 := (HB.out.cell (World.block_lt_of_cell? w _ hx151_0)).trans hx151_0
              replace p151 := eq_true p151
              replace q151 := eq_true q151
              go_wp2
              repeat (go_quiet (fail); try go_wp2)
              go_meet
              case rel => exact ⟨_, (((rd x4_1 x6_9) == (wrap64 (-(rd l0 x5_1))))), (by first | rfl | (simp; done) | (simp [*]; done)), H', ⟨by have := HK1.out; have := HJ4.out; have := HJ9.out; first | omega | exact Nat.le_refl _⟩, ⟨by (with_reducible repeat (first | apply Kd.R_alloc | apply Kd.R_drewN | apply Kd.R_drew)); exact HO_4.out⟩, ⟨by repeat (first | (with_reducible first | exact HB.out | apply below_alloc | apply pw_below_drewN | apply below_drew1) | exact HB.out)⟩⟩
             ·rw [if_neg c25] at H
              exact absurd H (by simp)
            ·rw [if_neg c24] at H
             exact absurd H (by simp)
           ·rw [if_neg c23] at H
            exact absurd H (by simp)
          ·rw [if_neg c22] at H
           have c22b0 : decide (x6_9 < (x4_1.length : Int)) = false := decide_eq_false c22
           clear c22
           (first | rw [c22b0] | (simp only [i64_w, i32_w]; rw [c22b0]) | skip)
           have H' := Aside0.mk H
           clear H
           obtain ⟨Ao27, co27, eo27⟩ := Kd.R_slice HO_4.out
           subst eo27
           go_wp2
           repeat (go_quiet (fail); try go_wp2)
           go_meet
           case rel => exact ⟨_, (false), (by first | rfl | (simp; done) | (simp [*]; done)), H', ⟨by have := HK1.out; have := HJ4.out; have := HJ9.out; first | omega | exact Nat.le_refl _⟩, ⟨by (with_reducible repeat (first | apply Kd.R_alloc | apply Kd.R_drewN | apply Kd.R_drew)); exact HO_4.out⟩, ⟨by repeat (first | (with_reducible first | exact HB.out | apply below_alloc | apply pw_below_drewN | apply below_drew1) | exact HB.out)⟩⟩
         case rest =>
          clear HC21
          try clear c1
          try clear p1
          try clear q1
          try clear hx1
          try clear c2
          try clear p2
          try clear c4
          try clear c4b0
          try clear c6
          try clear c6b0
          try clear p6
          try clear c7
          try clear c7b0
          try clear c7b1
          try clear c8
          try clear c8b0
          try clear c9
          try clear c11
          try clear c11b0
          try clear c12
          try clear c12b0
          try clear c13
          try clear c14
          try clear c14b0
          try clear p14
          try clear q14
          try clear hx14
          try clear c15
          try clear c15b0
          try clear p15
          try clear q15
          try clear hx15
          try clear c17
          try clear c17b0
          try clear c22
          try clear c22b0
          try clear c23
          try clear c23b0
          try clear c24
          try clear c24b0
          try clear c25
          try clear c25b0
          try clear hx143_0
          try clear hx144_0
          try clear hx145_0
          try clear hx146_0
          try clear hx148_0
          try clear hx150_0
          try clear hx151_0
          try clear p1
          try clear p14
          try clear p143
          try clear p144
          try clear p145
          try clear p146
          try clear p148
          try clear p150
          try clear p151
          try clear p2
          try clear p6
          try clear q1
          try clear q14
          try clear q143
          try clear q144
          try clear q145
          try clear q146
          try clear q148
          try clear q150
          try clear q151
          obtain ⟨kq, x68_20, rfl, HA, HJ20, HO_4, HB⟩ := hcut
          cases kq with
          | zero => exact absurd HA.out (by simp [assessorref26_Normal.j4])
          | succ kj20 =>
           have H := HA.out
           clear HA
           simp only [assessorref26_Normal.j4] at H
           by_cases c28 : x68_20 = true
           ·subst c28
            have H1 : (some (([] : List Int), false)) = some (r1, r2) := by rw [if_pos rfl] at H; exact H
            clear H
            have H := H1
            clear H1
            simp only [Option.some.injEq, Prod.mk.injEq] at H
            obtain ⟨rfl, rfl⟩ := H
            go_wp2
            repeat (go_quiet (fail); try go_wp2)
            go_ret2
            exact ⟨_, by first | rfl | (simp [errW_none, errW_some] <;> rfl) | (simp [*, errW_none, errW_some] <;> rfl), by first | exact Kd.R_nil _ _ _ _ _ | exact Kd.N_nil _ _ _ _ _ | exact Kd.V_nil _ _ _ _ _ | exact Kd.Q_nil _ _ _ _ _ | exact Kd.S_nil _ _ _ _ _, by repeat (first | (with_reducible first | exact HB.out | apply below_alloc | apply pw_below_drewN | apply below_drew1) | exact HB.out)⟩
           ·replace c28 := Bool.eq_false_iff.mpr c28
            subst c28
            have H1 : (if x6_9 < (x4_1.length : Int) then (if 0 ≤ x6_9 then (if 0 ≤ x5_1 then (if x5_1 < (l0.length : Int) then (if (rd x4_1 x6_9) = (rd l0 x5_1) then (assessorref26_Normal.l0 kj20 l0 x4_1 (wrap64 (x5_1 + 1))) else ((some (([] : List Int) : List Int)).bind fun y154 => (if x6_9 ≤ (x4_1.length : Int) then ((some (x4_1.take (x6_9 : Int).toNat : List Int)).bind fun y157 => (if y154.length + y157.length < 17592186044416 then ((some (y154 ++ y157 : List Int)).bind fun y161 => (if y161.length < 17592186044416 then ((some (y161 ++ [rd l0 x5_1] : List Int)).bind fun y165 => ((some (x4_1.drop (x6_9 : Int).toNat : List Int)).bind fun y168 => (if y165.length + y168.length < 17592186044416 then (assessorref26_Normal.l0 kj20 l0 (y165 ++ y168) (wrap64 (x5_1 + 1))) else (none)))) else (none))) else (none))) else (none)))) else (none)) else (none)) else (none)) else ((some (([] : List Int) : List Int)).bind fun y175 => (if 0 ≤ x6_9 then (if x6_9 ≤ (x4_1.length : Int) then ((some (x4_1.take (x6_9 : Int).toNat : List Int)).bind fun y178 => (if y175.length + y178.length < 17592186044416 then ((some (y175 ++ y178 : List Int)).bind fun y182 => (if 0 ≤ x5_1 then (if x5_1 < (l0.length : Int) then (if y182.length < 17592186044416 then ((some (y182 ++ [rd l0 x5_1] : List Int)).bind fun y186 => ((some (x4_1.drop (x6_9 : Int).toNat : List Int)).bind fun y189 => (if y186.length + y189.length < 17592186044416 then (assessorref26_Normal.l0 kj20 l0 (y186 ++ y189) (wrap64 (x5_1 + 1))) else (none)))) else (none)) else (none)) else (none))) else (none))) else (none)) else (none)))) = some (r1, r2) := by rw [if_neg (show ¬ (false = true) by decide)] at H; exact H
            clear H
            have H := H1
            clear H1
            by_cases c29 : x6_9 < (x4_1.length : Int)
            ·rw [if_pos c29] at H
             have c29b0 : decide (x6_9 < (x4_1.length : Int)) = true := decide_eq_true c29
             clear c29
             by_cases c30 : 0 ≤ x6_9
             ·rw [if_pos c30] at H
              have c30b0 : decide (0 ≤ x6_9) = true := decide_eq_true c30
              clear c30
              by_cases c31 : 0 ≤ x5_1
              ·rw [if_pos c31] at H
               have c31b0 : decide (0 ≤ x5_1) = true := decide_eq_true c31
               clear c31
               by_cases c32 : x5_1 < (l0.length : Int)
               ·rw [if_pos c32] at H
                have c32b0 : decide (x5_1 < (l0.length : Int)) = true := decide_eq_true c32
                clear c32
                by_cases c33 : (rd x4_1 x6_9) = (rd l0 x5_1)
                ·rw [if_pos c33] at H
                 have c33b0 : ((rd x4_1 x6_9) == (rd l0 x5_1)) = true := beq_iff_eq.mpr c33
                 have c33b1 : ((rd x4_1 x6_9) != (rd l0 x5_1)) = false := bne_eq_false_iff_eq.mpr c33
                 clear c33
                 have H' := Aside0.mk H
                 clear H
                 obtain ⟨Ao34, co34, eo34⟩ := Kd.R_slice HO_4.out
                 subst eo34
                 have p152 : 0 ≤ (x6_9 : Int) := of_decide_eq_true (by first | (with_reducible assumption) | assumption)
                 have q152 : x6_9 < (x4_1.length : Int) := of_decide_eq_true (by first | (with_reducible assumption) | assumption)
                 obtain ⟨ad152, e152, hx152_0⟩ := Kd.at_int (Kd.R_reads' HO_4.out).2.2 x6_9 p152 q152
                 cases e152
                 replace p152 := eq_true p152
                 replace q152 := eq_true q152
                 have p153 : 0 ≤ (x5_1 : Int) := of_decide_eq_true (by first | (with_reducible assumption) | assumption)
                 have q153 : x5_1 < (l0.length : Int) := of_decide_eq_true (by first | (with_reducible assumption) | assumption)
                 obtain ⟨ad153, e153, hx153_0⟩ := Kd.at_int HR0.out x5_1 p153 q153
                 cases e153
                 replace hx153_0 := (HB.out.cell (World.block_lt_of_cell? w _ hx153_0)).trans hx153_0
                 replace p153 := eq_true p153
                 replace q153 := eq_true q153
                 go_wp2
                 repeat (go_quiet (fail); try go_wp2)
                 go_roundg kj20
                 case measure => have := HK1.out; have := HJ4.out; have := HJ9.out; have := HJ20.out; omega
                 case rel => exact ⟨(x4_1), (wrap64 (x5_1 + 1)), (by first | rfl | (simp; done) | (simp [*]; done)), H', ⟨by have := HK1.out; have := HJ4.out; have := HJ9.out; have := HJ20.out; omega⟩, ⟨by (with_reducible repeat (first | apply Kd.R_alloc | apply Kd.R_drewN | apply Kd.R_drew)); exact HO_4.out⟩, ⟨by repeat (first | (with_reducible first | exact HB.out | apply below_alloc | apply pw_below_drewN | apply below_drew1) | exact HB.out)⟩⟩
                ·rw [if_neg c33] at H
                 have c33b0 : ((rd x4_1 x6_9) == (rd l0 x5_1)) = false := beq_eq_false_iff_ne.mpr c33
                 have c33b1 : ((rd x4_1 x6_9) != (rd l0 x5_1)) = true := bne_iff_ne.mpr c33
                 obtain ⟨y154, hy154⟩ : ∃ y_ : List Int, y_ = (([] : List Int)) := ⟨_, rfl⟩
                 replace H : (if x6_9 ≤ (x4_1.length : Int) then ((some (x4_1.take (x6_9 : Int).toNat : List Int)).bind fun y157 => (if y154.length + y157.length < 17592186044416 then ((some (y154 ++ y157 : List Int)).bind fun y161 => (if y161.length < 17592186044416 then ((some (y161 ++ [rd l0 x5_1] : List Int)).bind fun y165 => ((some (x4_1.drop (x6_9 : Int).toNat : List Int)).bind fun y168 => (if y165.length + y168.length < 17592186044416 then (assessorref26_Normal.l0 kj20 l0 (y165 ++ y168) (wrap64 (x5_1 + 1))) else (none)))) else (none))) else (none))) else (none)) = some (r1, r2) := by first | (rw [hy154]; with_reducible exact H) | (have H2_ := (Option.bind_some _ _).symm.trans H; rw [hy154]; with_reducible exact H2_) | (have H2_ := (Option.bind_some _ _).symm.trans H; with_reducible exact H2_) | with_reducible exact H | (rw [hy154]; exact H) | exact H
                 have Ny154 := Aside0.mk hy154
                 clear hy154
                 have c35b0 := eq_true (of_decide_eq_true (by first | (with_reducible assumption) | assumption) : 0 ≤ x6_9)
                 by_cases c36 : x6_9 ≤ (x4_1.length : Int)
                 ·rw [if_pos c36] at H
                  have c36b0 := eq_true c36
                  have c36b1 : decide (x6_9 ≤ (x4_1.length : Int)) = true := decide_eq_true c36
                  clear c36
                  obtain ⟨y157, hy157⟩ : ∃ y_ : List Int, y_ = (x4_1.take (x6_9 : Int).toNat) := ⟨_, rfl⟩
                  replace H : (if y154.length + y157.length < 17592186044416 then ((some (y154 ++ y157 : List Int)).bind fun y161 => (if y161.length < 17592186044416 then ((some (y161 ++ [rd l0 x5_1] : List Int)).bind fun y165 => ((some (x4_1.drop (x6_9 : Int).toNat : List Int)).bind fun y168 => (if y165.length + y168.length < 17592186044416 then (assessorref26_Normal.l0 kj20 l0 (y165 ++ y168) (wrap64 (x5_1 + 1))) else (none)))) else (none))) else (none)) = some (r1, r2) := by first | (rw [hy157]; with_reducible exact H) | (have H2_ := (Option.bind_some _ _).symm.trans H; rw [hy157]; with_reducible exact H2_) | (have H2_ := (Option.bind_some _ _).symm.trans H; with_reducible exact H2_) | with_reducible exact H | (rw [hy157]; exact H) | exact H
                  have Ny157 := Aside0.mk hy157
                  clear hy157
                  by_cases c37 : y154.length + y157.length < 17592186044416
                  ·rw [if_pos c37] at H
                   have LMc37 := Aside0.mk c37
                   clear c37
                   obtain ⟨y161, hy161⟩ : ∃ y_ : List Int, y_ = (y154 ++ y157) := ⟨_, rfl⟩
                   replace H : (if y161.length < 17592186044416 then ((some (y161 ++ [rd l0 x5_1] : List Int)).bind fun y165 => ((some (x4_1.drop (x6_9 : Int).toNat : List Int)).bind fun y168 => (if y165.length + y168.length < 17592186044416 then (assessorref26_Normal.l0 kj20 l0 (y165 ++ y168) (wrap64 (x5_1 + 1))) else (none)))) else (none)) = some (r1, r2) := by first | (rw [hy161]; with_reducible exact H) | (have H2_ := (Option.bind_some _ _).symm.trans H; rw [hy161]; with_reducible exact H2_) | (have H2_ := (Option.bind_some _ _).symm.trans H; with_reducible exact H2_) | with_reducible exact H | (rw [hy161]; exact H) | exact H
                   have Ny161 := Aside0.mk hy161
                   clear hy161
                   by_cases c38 : y161.length < 17592186044416
                   ·rw [if_pos c38] at H
                    have LMc38 := Aside0.mk c38
                    clear c38
                    obtain ⟨y165, hy165⟩ : ∃ y_ : List Int, y_ = (y161 ++ [rd l0 x5_1]) := ⟨_, rfl⟩
                    replace H : ((some (x4_1.drop (x6_9 : Int).toNat : List Int)).bind fun y168 => (if y165.length + y168.length < 17592186044416 then (assessorref26_Normal.l0 kj20 l0 (y165 ++ y168) (wrap64 (x5_1 + 1))) else (none))) = some (r1, r2) := by first | (rw [hy165]; with_reducible exact H) | (have H2_ := (Option.bind_some _ _).symm.trans H; rw [hy165]; with_reducible exact H2_) | (have H2_ := (Option.bind_some _ _).symm.trans H; with_reducible exact H2_) | with_reducible exact H | (rw [hy165]; exact H) | exact H
                    have Ny165 := Aside0.mk hy165
                    clear hy165
                    have c39b0 := eq_true (of_decide_eq_true (by first | (with_reducible assumption) | assumption) : 0 ≤ x6_9)
                    have c40b0 := eq_true (of_decide_eq_true (by first | (with_reducible assumption) | assumption) : x6_9 ≤ (x4_1.length : Int))
                    obtain ⟨y168, hy168⟩ : ∃ y_ : List Int, y_ = (x4_1.drop (x6_9 : Int).toNat) := ⟨_, rfl⟩
                    replace H : (if y165.length + y168.length < 17592186044416 then (assessorref26_Normal.l0 kj20 l0 (y165 ++ y168) (wrap64 (x5_1 + 1))) else (none)) = some (r1, r2) := by first | (rw [hy168]; with_reducible exact H) | (have H2_ := (Option.bind_some _ _).symm.trans H; rw [hy168]; with_reducible exact H2_) | (have H2_ := (Option.bind_some _ _).symm.trans H; with_reducible exact H2_) | with_reducible exact H | (rw [hy168]; exact H) | exact H
                    have Ny168 := Aside0.mk hy168
                    clear hy168
                    by_cases c41 : y165.length + y168.length < 17592186044416
                    ·rw [if_pos c41] at H
                     have LMc41 := Aside0.mk c41
                     clear c41
                     obtain ⟨y172, hy172⟩ : ∃ y_ : List Int, y_ = (y165 ++ y168) := ⟨_, rfl⟩
                     replace H : (assessorref26_Normal.l0 kj20 l0 y172 (wrap64 (x5_1 + 1))) = some (r1, r2) := by first | (rw [hy172]; with_reducible exact H) | (have H2_ := (Option.bind_some _ _).symm.trans H; rw [hy172]; with_reducible exact H2_) | (have H2_ := (Option.bind_some _ _).symm.trans H; with_reducible exact H2_) | with_reducible exact H | (rw [hy172]; exact H) | exact H
                     have Ny172 := Aside0.mk hy172
                     clear hy172
                     have H' := Aside0.mk H
                     clear H
                     obtain ⟨Ao42, co42, eo42⟩ := Kd.R_slice HO_4.out
                     subst eo42
                     have p152 : 0 ≤ (x6_9 : Int) := of_decide_eq_true (by first | (with_reducible assumption) | assumption)
                     have q152 : x6_9 < (x4_1.length : Int) := of_decide_eq_true (by first | (with_reducible assumption) | assumption)
                     obtain ⟨ad152, e152, hx152_0⟩ := Kd.at_int (Kd.R_reads' HO_4.out).2.2 x6_9 p152 q152
                     cases e152
                     replace p152 := eq_true p152
                     replace q152 := eq_true q152
                     have p153 : 0 ≤ (x5_1 : Int) := of_decide_eq_true (by first | (with_reducible assumption) | assumption)
                     have q153 : x5_1 < (l0.length : Int) := of_decide_eq_true (by first | (with_reducible assumption) | assumption)
                     obtain ⟨ad153, e153, hx153_0⟩ := Kd.at_int HR0.out x5_1 p153 q153
                     cases e153
                     replace hx153_0 := (HB.out.cell (World.block_lt_of_cell? w _ hx153_0)).trans hx153_0
                     replace p153 := eq_true p153
                     replace q153 := eq_true q153
                     go_wp2_with (first | ((with_reducible refine gate_dst (N := 84) rfl ?_); refine Kd.R_lit (Kd.int .i64) _ 3 ?hg (N := 84) ?hd (xs := ([] : List Int)) (inner := []) (ok := fun _ => True) (okp := fun _ => True) ?hr ?hp (fun _ hk => hk) trivial (Below.refl _ _) (Nat.le_refl _) (by simp) ?_; (case hd => rfl); (case hg => rfl); (case hr => first | (go_simp; done) | (go_simp; rfl)); (case hp => exact (Reps.none _ _)); intro v155 w43 ho44 hb hg_ hnew_; clear hg_ hnew_; (first | rw [← Ny154.out] at ho44 | (simp only [Int.reduceToNat] at ho44; rw [← Ny154.out] at ho44)); have n0_ := Aside0.mk (Kd.R_elder' (by (with_reducible repeat (first | apply Kd.R_alloc | apply Kd.R_drewN | apply Kd.R_drew)); exact HO_4.out) (Kd.R_base ho44) hb); have n1_ := Aside0.mk (Kd.R_lower (Kd.R_new' ho44 (Kd.R_lt (by (with_reducible repeat (first | apply Kd.R_alloc | apply Kd.R_drewN | apply Kd.R_drew)); exact HO_4.out))) (below_size (by repeat (first | (with_reducible first | exact HB.out | apply below_alloc | apply pw_below_drewN | apply below_drew1) | exact HB.out)))); have n2_ := Aside0.mk (below_step (by repeat (first | (with_reducible first | exact HB.out | apply below_alloc | apply pw_below_drewN | apply below_drew1) | exact HB.out)) hb); clear HO_4; clear HB; have HO_4 := n0_; have HO156 := n1_; have HB := n2_; clear n0_ n1_ n2_; clear hb ho44; have q45 : (x6_9 : Int) ≤ ((x4_1.length : Int) : Int) := of_decide_eq_true (by first | (with_reducible assumption) | assumption); obtain ⟨i045, hi045, _, hsz45, _⟩ := info_parts info3; have hroom45 : x4_1.length ≤ co42 := (Kd.R_reads' HO_4.out).2.1; have hC45 : Kd.C (Kd.int .i64) _ (some ad152) x4_1.length x4_1 := (Kd.R_reads' HO_4.out).2.2; have hcut45 := cut_to (P := Tryz.prog) 25 3 .i64 Tryz.underlying25 hi045 (some ad152) x4_1.length co42 x6_9 (of_decide_eq_true (by first | (with_reducible assumption) | assumption)) q45 hroom45; have hr45 := Kd.C_take (m := (x6_9 : Int).toNat) hC45 (by omega); have hy45 : y157.length = (x6_9 : Int).toNat := (by rw [Ny157.out, List.length_take]; omega); rw [← Ny157.out] at hr45; rw [← hy45] at hcut45; have HR160 := Aside0.mk hr45; have HC160 := Aside0.mk (show y157.length ≤ co42 from by omega); clear hr45 hC45 hroom45 hi045 hsz45; have KY45 := Aside0.mk hy45; clear hy45; have KL45 := Aside0.mk (show (x6_9 : Int).toNat ≤ x4_1.length from by omega); replace q45 := eq_true q45) | ((with_reducible refine gate_builtin (b := .append) (xs := #[.tmp 84, .tmp 87]) rfl ?_); at_builtin; refine Kd.R_append_rows (Kd.int .i64) (w0 := w) w.heap.size rfl (.tmp 84) (.tmp 87) 25 3 (.int .i64 0) 8 rfl Tryz.underlying25 info3 rfl (by decide) (by omega) v155 y154 y157 _ _ _ (fun k_ => some k_ ≠ (.slice (some ad152) x4_1.length co42 : Value).ownBlock) (fun _ => False) rfl rfl ?aO ?aR (fun _ _ h => h) (fun _ h => h.elim) ?aF ?aB ?aS ?aL ?_; (case aR => repeat (first | exact (by repeat (first | (with_reducible exact HR160.out) | (with_reducible refine Kd.C_alloc ?_ _) | (with_reducible refine Kd.C_drewN ?_ _) | (with_reducible refine Kd.C_drew ?_) | exact HR160.out)) | (with_reducible refine Kd.C_alloc ?_ _) | (with_reducible refine Kd.C_drewN ?_ _) | (with_reducible refine Kd.C_drew ?_))); (case aB => exact (by repeat (first | (with_reducible first | exact HB.out | apply below_alloc | apply pw_below_drewN | apply below_drew1) | exact HB.out))); (case aF => exact (fun k_ hk => Kd.fresh' (Kd.R_lt (by (with_reducible repeat (first | apply Kd.R_alloc | apply Kd.R_drewN | apply Kd.R_drew)); exact HO_4.out)) k_ hk)); (case aO => exact (by (with_reducible repeat (first | apply Kd.R_alloc | apply Kd.R_drewN | apply Kd.R_drew)); exact Kd.R_mono HO156.out (fun _ hk => hk.2))); (case aS => exact (below_size (by repeat (first | (with_reducible first | exact HB.out | apply below_alloc | apply pw_below_drewN | apply below_drew1) | exact HB.out)))); (case aL => have := LMc37.out; omega); intro v162 w46 ho hb hg hat; rw [← Ny161.out] at ho; have n0_ := Aside0.mk (Kd.R_after (ok := (fun _ => True)) (by (with_reducible repeat (first | apply Kd.R_alloc | apply Kd.R_drewN | apply Kd.R_drew)); exact HO_4.out) hg hat); have n1_ := Aside0.mk (hb); have n2_ := Aside0.mk ((show Kd.C (Kd.int .i64) w46 (some ad152) y157.length y157 from by rw [Ny157.out]; exact Kd.C_take (m := (x6_9 : Int).toNat) ((Kd.R_reads' (Kd.R_after (ok := (fun _ => True)) (by (with_reducible repeat (first | apply Kd.R_alloc | apply Kd.R_drewN | apply Kd.R_drew)); exact HO_4.out) hg hat)).2.2) KL45.out)); have n3_ := Aside0.mk (ho); clear HO_4; clear HB; clear HR160; clear HO156; have HO_4 := n0_; have HB := n1_; have HR160 := n2_; have HO163 := n3_; clear n0_ n1_ n2_ n3_; clear ho hb hg hat; have p164 : 0 ≤ (x5_1 : Int) := of_decide_eq_true (by first | (with_reducible assumption) | assumption); have q164 : x5_1 < (l0.length : Int) := of_decide_eq_true (by first | (with_reducible assumption) | assumption); obtain ⟨ad164, e164, hx164_0⟩ := Kd.at_int HR0.out x5_1 p164 q164; obtain rfl : ad153 = ad164 := (by injection e164); replace hx164_0 := (HB.out.cell (World.block_lt_of_cell? w _ hx164_0)).trans hx164_0; replace p164 := eq_true p164; replace q164 := eq_true q164) | ((with_reducible refine gate_builtin (b := .append) (xs := #[.tmp 89, .tmp 94]) rfl ?_); at_builtin; refine Kd.R_append (Kd.int .i64) (w0 := w) w.heap.size rfl (.tmp 89) (.tmp 94) 25 3 (.int .i64 0) 8 rfl Tryz.underlying25 info3 rfl (by decide) (by omega) v162 y161 (rd l0 x5_1) [.int .i64 (rd l0 x5_1)] (fun k_ => some k_ ≠ (.slice (some ad152) x4_1.length co42 : Value).ownBlock) (fun _ => False) rfl rfl ?aP (fun _ hk => hk.elim) ?aF ?aO ?aB ?aS ?aL ?_; (case aP => exact rfl); (case aB => exact (by repeat (first | (with_reducible first | exact HB.out | apply below_alloc | apply pw_below_drewN | apply below_drew1) | exact HB.out))); (case aF => exact (fun k_ hk => Kd.fresh' (Kd.R_lt (by (with_reducible repeat (first | apply Kd.R_alloc | apply Kd.R_drewN | apply Kd.R_drew)); exact HO_4.out)) k_ hk)); (case aO => exact (by (with_reducible repeat (first | apply Kd.R_alloc | apply Kd.R_drewN | apply Kd.R_drew)); exact HO163.out)); (case aS => exact (below_size (by repeat (first | (with_reducible first | exact HB.out | apply below_alloc | apply pw_below_drewN | apply below_drew1) | exact HB.out)))); (case aL => have := LMc38.out; omega); intro v166 w47 ho hb hg hat; rw [← Ny165.out] at ho; have n0_ := Aside0.mk (Kd.R_after (ok := (fun _ => True)) (by (with_reducible repeat (first | apply Kd.R_alloc | apply Kd.R_drewN | apply Kd.R_drew)); exact HO_4.out) hg hat); have n1_ := Aside0.mk (hb); have n2_ := Aside0.mk ((show Kd.C (Kd.int .i64) w47 (some ad152) y157.length y157 from by rw [Ny157.out]; exact Kd.C_take (m := (x6_9 : Int).toNat) ((Kd.R_reads' (Kd.R_after (ok := (fun _ => True)) (by (with_reducible repeat (first | apply Kd.R_alloc | apply Kd.R_drewN | apply Kd.R_drew)); exact HO_4.out) hg hat)).2.2) KL45.out)); have n3_ := Aside0.mk (ho); clear HO_4; clear HB; clear HR160; clear HO163; have HO_4 := n0_; have HB := n1_; have HR160 := n2_; have HO167 := n3_; clear n0_ n1_ n2_ n3_; clear ho hb hg hat; have q48 : (x6_9 : Int) ≤ ((x4_1.length : Int) : Int) := of_decide_eq_true (by first | (with_reducible assumption) | assumption); obtain ⟨i048, hi048, _, hsz48, _⟩ := info_parts info3; have hroom48 : x4_1.length ≤ co42 := (Kd.R_reads' HO_4.out).2.1; have hC48 : Kd.C (Kd.int .i64) _ (some ad152) x4_1.length x4_1 := (Kd.R_reads' HO_4.out).2.2; have q048 : (0 : Int) ≤ (x6_9 : Int) := of_decide_eq_true (by first | (with_reducible assumption) | assumption); have hcut48 := cut_from (P := Tryz.prog) 25 3 .i64 Tryz.underlying25 hi048 1 hsz48 (some ad152) x4_1.length co42 x6_9 q048 q48; have hr48 := Kd.C_drop (m := (x6_9 : Int).toNat) (c := co42) hC48 (by omega) hroom48; obtain ⟨A48, hA48⟩ : ∃ A1, A1 = (if co42 = (x6_9 : Int).toNat then (some ad152) else ((some ad152) : Option Addr).map (·.add ((x6_9 : Int).toNat * 1))) := ⟨_, rfl⟩; obtain ⟨c48, hc48⟩ : ∃ c1, c1 = co42 - (x6_9 : Int).toNat := ⟨_, rfl⟩; have hy48 : y168.length = x4_1.length - (x6_9 : Int).toNat := (by rw [Ny168.out, List.length_drop] <;> omega); rw [show (x4_1).drop (x6_9 : Int).toNat = y168 from Ny168.out.symm] at hr48; replace hr48 : Kd.C (Kd.int .i64) _ A48 y168.length y168 := (by rw [hA48]; exact hr48); rw [← hy48, ← hA48, ← hc48] at hcut48; have HR171 := Aside0.mk hr48; have HC171 := Aside0.mk (show y168.length ≤ c48 from by rw [hy48, hc48]; exact Nat.sub_le_sub_right hroom48 _); clear hr48 hC48 hroom48 hi048 hsz48 hc48; have KY48 := Aside0.mk hy48; have KA48 := Aside0.mk hA48; clear hy48 hA48; have KL48 := Aside0.mk (show (x6_9 : Int).toNat ≤ x4_1.length from by omega); replace q48 := eq_true q48) | ((with_reducible refine gate_builtin (b := .append) (xs := #[.tmp 96, .tmp 99]) rfl ?_); at_builtin; refine Kd.R_append_rows (Kd.int .i64) (w0 := w) w.heap.size rfl (.tmp 96) (.tmp 99) 25 3 (.int .i64 0) 8 rfl Tryz.underlying25 info3 rfl (by decide) (by omega) v166 y165 y168 _ _ _ (fun k_ => some k_ ≠ (.slice (some ad152) x4_1.length co42 : Value).ownBlock) (fun _ => False) rfl rfl ?aO ?aR (fun _ _ h => h) (fun _ h => h.elim) ?aF ?aB ?aS ?aL ?_; (case aR => repeat (first | exact (by repeat (first | (with_reducible exact HR171.out) | (with_reducible refine Kd.C_alloc ?_ _) | (with_reducible refine Kd.C_drewN ?_ _) | (with_reducible refine Kd.C_drew ?_) | exact HR171.out)) | (with_reducible refine Kd.C_alloc ?_ _) | (with_reducible refine Kd.C_drewN ?_ _) | (with_reducible refine Kd.C_drew ?_))); (case aB => exact (by repeat (first | (with_reducible first | exact HB.out | apply below_alloc | apply pw_below_drewN | apply below_drew1) | exact HB.out))); (case aF => exact (fun k_ hk => Kd.fresh' (Kd.R_lt (by (with_reducible repeat (first | apply Kd.R_alloc | apply Kd.R_drewN | apply Kd.R_drew)); exact HO_4.out)) k_ hk)); (case aO => exact (by (with_reducible repeat (first | apply Kd.R_alloc | apply Kd.R_drewN | apply Kd.R_drew)); exact HO167.out)); (case aS => exact (below_size (by repeat (first | (with_reducible first | exact HB.out | apply below_alloc | apply pw_below_drewN | apply below_drew1) | exact HB.out)))); (case aL => have := LMc41.out; omega); intro v173 w49 ho hb hg hat; rw [← Ny172.out] at ho; have n0_ := Aside0.mk (Kd.R_after (ok := (fun _ => True)) (by (with_reducible repeat (first | apply Kd.R_alloc | apply Kd.R_drewN | apply Kd.R_drew)); exact HO_4.out) hg hat); have n1_ := Aside0.mk (hb); have n2_ := Aside0.mk ((show Kd.C (Kd.int .i64) w49 (some ad152) y157.length y157 from by rw [Ny157.out]; exact Kd.C_take (m := (x6_9 : Int).toNat) ((Kd.R_reads' (Kd.R_after (ok := (fun _ => True)) (by (with_reducible repeat (first | apply Kd.R_alloc | apply Kd.R_drewN | apply Kd.R_drew)); exact HO_4.out) hg hat)).2.2) KL45.out)); have n3_ := Aside0.mk ((show Kd.C (Kd.int .i64) w49 A48 y168.length y168 from by rw [Ny168.out, KA48.out]; exact Kd.C_drop (m := (x6_9 : Int).toNat) (c := co42) ((Kd.R_reads' (Kd.R_after (ok := (fun _ => True)) (by (with_reducible repeat (first | apply Kd.R_alloc | apply Kd.R_drewN | apply Kd.R_drew)); exact HO_4.out) hg hat)).2.2) KL48.out ((Kd.R_reads' (Kd.R_after (ok := (fun _ => True)) (by (with_reducible repeat (first | apply Kd.R_alloc | apply Kd.R_drewN | apply Kd.R_drew)); exact HO_4.out) hg hat)).2.1))); have n4_ := Aside0.mk (ho); clear HO_4; clear HB; clear HR160; clear HR171; clear HO167; have HO_4 := n0_; have HB := n1_; have HR160 := n2_; have HR171 := n3_; have HO174 := n4_; clear n0_ n1_ n2_ n3_ n4_; clear ho hb hg hat))
                     repeat (go_quiet (first | ((with_reducible refine gate_dst (N := 84) rfl ?_); refine Kd.R_lit (Kd.int .i64) _ 3 ?hg (N := 84) ?hd (xs := ([] : List Int)) (inner := []) (ok := fun _ => True) (okp := fun _ => True) ?hr ?hp (fun _ hk => hk) trivial (Below.refl _ _) (Nat.le_refl _) (by simp) ?_; (case hd => rfl); (case hg => rfl); (case hr => first | (go_simp; done) | (go_simp; rfl)); (case hp => exact (Reps.none _ _)); intro v155 w43 ho44 hb hg_ hnew_; clear hg_ hnew_; (first | rw [← Ny154.out] at ho44 | (simp only [Int.reduceToNat] at ho44; rw [← Ny154.out] at ho44)); have n0_ := Aside0.mk (Kd.R_elder' (by (with_reducible repeat (first | apply Kd.R_alloc | apply Kd.R_drewN | apply Kd.R_drew)); exact HO_4.out) (Kd.R_base ho44) hb); have n1_ := Aside0.mk (Kd.R_lower (Kd.R_new' ho44 (Kd.R_lt (by (with_reducible repeat (first | apply Kd.R_alloc | apply Kd.R_drewN | apply Kd.R_drew)); exact HO_4.out))) (below_size (by repeat (first | (with_reducible first | exact HB.out | apply below_alloc | apply pw_below_drewN | apply below_drew1) | exact HB.out)))); have n2_ := Aside0.mk (below_step (by repeat (first | (with_reducible first | exact HB.out | apply below_alloc | apply pw_below_drewN | apply below_drew1) | exact HB.out)) hb); clear HO_4; clear HB; have HO_4 := n0_; have HO156 := n1_; have HB := n2_; clear n0_ n1_ n2_; clear hb ho44; have q45 : (x6_9 : Int) ≤ ((x4_1.length : Int) : Int) := of_decide_eq_true (by first | (with_reducible assumption) | assumption); obtain ⟨i045, hi045, _, hsz45, _⟩ := info_parts info3; have hroom45 : x4_1.length ≤ co42 := (Kd.R_reads' HO_4.out).2.1; have hC45 : Kd.C (Kd.int .i64) _ (some ad152) x4_1.length x4_1 := (Kd.R_reads' HO_4.out).2.2; have hcut45 := cut_to (P := Tryz.prog) 25 3 .i64 Tryz.underlying25 hi045 (some ad152) x4_1.length co42 x6_9 (of_decide_eq_true (by first | (with_reducible assumption) | assumption)) q45 hroom45; have hr45 := Kd.C_take (m := (x6_9 : Int).toNat) hC45 (by omega); have hy45 : y157.length = (x6_9 : Int).toNat := (by rw [Ny157.out, List.length_take]; omega); rw [← Ny157.out] at hr45; rw [← hy45] at hcut45; have HR160 := Aside0.mk hr45; have HC160 := Aside0.mk (show y157.length ≤ co42 from by omega); clear hr45 hC45 hroom45 hi045 hsz45; have KY45 := Aside0.mk hy45; clear hy45; have KL45 := Aside0.mk (show (x6_9 : Int).toNat ≤ x4_1.length from by omega); replace q45 := eq_true q45) | ((with_reducible refine gate_builtin (b := .append) (xs := #[.tmp 84, .tmp 87]) rfl ?_); at_builtin; refine Kd.R_append_rows (Kd.int .i64) (w0 := w) w.heap.size rfl (.tmp 84) (.tmp 87) 25 3 (.int .i64 0) 8 rfl Tryz.underlying25 info3 rfl (by decide) (by omega) v155 y154 y157 _ _ _ (fun k_ => some k_ ≠ (.slice (some ad152) x4_1.length co42 : Value).ownBlock) (fun _ => False) rfl rfl ?aO ?aR (fun _ _ h => h) (fun _ h => h.elim) ?aF ?aB ?aS ?aL ?_; (case aR => repeat (first | exact (by repeat (first | (with_reducible exact HR160.out) | (with_reducible refine Kd.C_alloc ?_ _) | (with_reducible refine Kd.C_drewN ?_ _) | (with_reducible refine Kd.C_drew ?_) | exact HR160.out)) | (with_reducible refine Kd.C_alloc ?_ _) | (with_reducible refine Kd.C_drewN ?_ _) | (with_reducible refine Kd.C_drew ?_))); (case aB => exact (by repeat (first | (with_reducible first | exact HB.out | apply below_alloc | apply pw_below_drewN | apply below_drew1) | exact HB.out))); (case aF => exact (fun k_ hk => Kd.fresh' (Kd.R_lt (by (with_reducible repeat (first | apply Kd.R_alloc | apply Kd.R_drewN | apply Kd.R_drew)); exact HO_4.out)) k_ hk)); (case aO => exact (by (with_reducible repeat (first | apply Kd.R_alloc | apply Kd.R_drewN | apply Kd.R_drew)); exact Kd.R_mono HO156.out (fun _ hk => hk.2))); (case aS => exact (below_size (by repeat (first | (with_reducible first | exact HB.out | apply below_alloc | apply pw_below_drewN | apply below_drew1) | exact HB.out)))); (case aL => have := LMc37.out; omega); intro v162 w46 ho hb hg hat; rw [← Ny161.out] at ho; have n0_ := Aside0.mk (Kd.R_after (ok := (fun _ => True)) (by (with_reducible repeat (first | apply Kd.R_alloc | apply Kd.R_drewN | apply Kd.R_drew)); exact HO_4.out) hg hat); have n1_ := Aside0.mk (hb); have n2_ := Aside0.mk ((show Kd.C (Kd.int .i64) w46 (some ad152) y157.length y157 from by rw [Ny157.out]; exact Kd.C_take (m := (x6_9 : Int).toNat) ((Kd.R_reads' (Kd.R_after (ok := (fun _ => True)) (by (with_reducible repeat (first | apply Kd.R_alloc | apply Kd.R_drewN | apply Kd.R_drew)); exact HO_4.out) hg hat)).2.2) KL45.out)); have n3_ := Aside0.mk (ho); clear HO_4; clear HB; clear HR160; clear HO156; have HO_4 := n0_; have HB := n1_; have HR160 := n2_; have HO163 := n3_; clear n0_ n1_ n2_ n3_; clear ho hb hg hat; have p164 : 0 ≤ (x5_1 : Int) := of_decide_eq_true (by first | (with_reducible assumption) | assumption); have q164 : x5_1 < (l0.length : Int) := of_decide_eq_true (by first | (with_reducible assumption) | assumption); obtain ⟨ad164, e164, hx164_0⟩ := Kd.at_int HR0.out x5_1 p164 q164; obtain rfl : ad153 = ad164 := (by injection e164); replace hx164_0 := (HB.out.cell (World.block_lt_of_cell? w _ hx164_0)).trans hx164_0; replace p164 := eq_true p164; replace q164 := eq_true q164) | ((with_reducible refine gate_builtin (b := .append) (xs := #[.tmp 89, .tmp 94]) rfl ?_); at_builtin; refine Kd.R_append (Kd.int .i64) (w0 := w) w.heap.size rfl (.tmp 89) (.tmp 94) 25 3 (.int .i64 0) 8 rfl Tryz.underlying25 info3 rfl (by decide) (by omega) v162 y161 (rd l0 x5_1) [.int .i64 (rd l0 x5_1)] (fun k_ => some k_ ≠ (.slice (some ad152) x4_1.length co42 : Value).ownBlock) (fun _ => False) rfl rfl ?aP (fun _ hk => hk.elim) ?aF ?aO ?aB ?aS ?aL ?_; (case aP => exact rfl); (case aB => exact (by repeat (first | (with_reducible first | exact HB.out | apply below_alloc | apply pw_below_drewN | apply below_drew1) | exact HB.out))); (case aF => exact (fun k_ hk => Kd.fresh' (Kd.R_lt (by (with_reducible repeat (first | apply Kd.R_alloc | apply Kd.R_drewN | apply Kd.R_drew)); exact HO_4.out)) k_ hk)); (case aO => exact (by (with_reducible repeat (first | apply Kd.R_alloc | apply Kd.R_drewN | apply Kd.R_drew)); exact HO163.out)); (case aS => exact (below_size (by repeat (first | (with_reducible first | exact HB.out | apply below_alloc | apply pw_below_drewN | apply below_drew1) | exact HB.out)))); (case aL => have := LMc38.out; omega); intro v166 w47 ho hb hg hat; rw [← Ny165.out] at ho; have n0_ := Aside0.mk (Kd.R_after (ok := (fun _ => True)) (by (with_reducible repeat (first | apply Kd.R_alloc | apply Kd.R_drewN | apply Kd.R_drew)); exact HO_4.out) hg hat); have n1_ := Aside0.mk (hb); have n2_ := Aside0.mk ((show Kd.C (Kd.int .i64) w47 (some ad152) y157.length y157 from by rw [Ny157.out]; exact Kd.C_take (m := (x6_9 : Int).toNat) ((Kd.R_reads' (Kd.R_after (ok := (fun _ => True)) (by (with_reducible repeat (first | apply Kd.R_alloc | apply Kd.R_drewN | apply Kd.R_drew)); exact HO_4.out) hg hat)).2.2) KL45.out)); have n3_ := Aside0.mk (ho); clear HO_4; clear HB; clear HR160; clear HO163; have HO_4 := n0_; have HB := n1_; have HR160 := n2_; have HO167 := n3_; clear n0_ n1_ n2_ n3_; clear ho hb hg hat; have q48 : (x6_9 : Int) ≤ ((x4_1.length : Int) : Int) := of_decide_eq_true (by first | (with_reducible assumption) | assumption); obtain ⟨i048, hi048, _, hsz48, _⟩ := info_parts info3; have hroom48 : x4_1.length ≤ co42 := (Kd.R_reads' HO_4.out).2.1; have hC48 : Kd.C (Kd.int .i64) _ (some ad152) x4_1.length x4_1 := (Kd.R_reads' HO_4.out).2.2; have q048 : (0 : Int) ≤ (x6_9 : Int) := of_decide_eq_true (by first | (with_reducible assumption) | assumption); have hcut48 := cut_from (P := Tryz.prog) 25 3 .i64 Tryz.underlying25 hi048 1 hsz48 (some ad152) x4_1.length co42 x6_9 q048 q48; have hr48 := Kd.C_drop (m := (x6_9 : Int).toNat) (c := co42) hC48 (by omega) hroom48; obtain ⟨A48, hA48⟩ : ∃ A1, A1 = (if co42 = (x6_9 : Int).toNat then (some ad152) else ((some ad152) : Option Addr).map (·.add ((x6_9 : Int).toNat * 1))) := ⟨_, rfl⟩; obtain ⟨c48, hc48⟩ : ∃ c1, c1 = co42 - (x6_9 : Int).toNat := ⟨_, rfl⟩; have hy48 : y168.length = x4_1.length - (x6_9 : Int).toNat := (by rw [Ny168.out, List.length_drop] <;> omega); rw [show (x4_1).drop (x6_9 : Int).toNat = y168 from Ny168.out.symm] at hr48; replace hr48 : Kd.C (Kd.int .i64) _ A48 y168.length y168 := (by rw [hA48]; exact hr48); rw [← hy48, ← hA48, ← hc48] at hcut48; have HR171 := Aside0.mk hr48; have HC171 := Aside0.mk (show y168.length ≤ c48 from by rw [hy48, hc48]; exact Nat.sub_le_sub_right hroom48 _); clear hr48 hC48 hroom48 hi048 hsz48 hc48; have KY48 := Aside0.mk hy48; have KA48 := Aside0.mk hA48; clear hy48 hA48; have KL48 := Aside0.mk (show (x6_9 : Int).toNat ≤ x4_1.length from by omega); replace q48 := eq_true q48) | ((with_reducible refine gate_builtin (b := .append) (xs := #[.tmp 96, .tmp 99]) rfl ?_); at_builtin; refine Kd.R_append_rows (Kd.int .i64) (w0 := w) w.heap.size rfl (.tmp 96) (.tmp 99) 25 3 (.int .i64 0) 8 rfl Tryz.underlying25 info3 rfl (by decide) (by omega) v166 y165 y168 _ _ _ (fun k_ => some k_ ≠ (.slice (some ad152) x4_1.length co42 : Value).ownBlock) (fun _ => False) rfl rfl ?aO ?aR (fun _ _ h => h) (fun _ h => h.elim) ?aF ?aB ?aS ?aL ?_; (case aR => repeat (first | exact (by repeat (first | (with_reducible exact HR171.out) | (with_reducible refine Kd.C_alloc ?_ _) | (with_reducible refine Kd.C_drewN ?_ _) | (with_reducible refine Kd.C_drew ?_) | exact HR171.out)) | (with_reducible refine Kd.C_alloc ?_ _) | (with_reducible refine Kd.C_drewN ?_ _) | (with_reducible refine Kd.C_drew ?_))); (case aB => exact (by repeat (first | (with_reducible first | exact HB.out | apply below_alloc | apply pw_below_drewN | apply below_drew1) | exact HB.out))); (case aF => exact (fun k_ hk => Kd.fresh' (Kd.R_lt (by (with_reducible repeat (first | apply Kd.R_alloc | apply Kd.R_drewN | apply Kd.R_drew)); exact HO_4.out)) k_ hk)); (case aO => exact (by (with_reducible repeat (first | apply Kd.R_alloc | apply Kd.R_drewN | apply Kd.R_drew)); exact HO167.out)); (case aS => exact (below_size (by repeat (first | (with_reducible first | exact HB.out | apply below_alloc | apply pw_below_drewN | apply below_drew1) | exact HB.out)))); (case aL => have := LMc41.out; omega); intro v173 w49 ho hb hg hat; rw [← Ny172.out] at ho; have n0_ := Aside0.mk (Kd.R_after (ok := (fun _ => True)) (by (with_reducible repeat (first | apply Kd.R_alloc | apply Kd.R_drewN | apply Kd.R_drew)); exact HO_4.out) hg hat); have n1_ := Aside0.mk (hb); have n2_ := Aside0.mk ((show Kd.C (Kd.int .i64) w49 (some ad152) y157.length y157 from by rw [Ny157.out]; exact Kd.C_take (m := (x6_9 : Int).toNat) ((Kd.R_reads' (Kd.R_after (ok := (fun _ => True)) (by (with_reducible repeat (first | apply Kd.R_alloc | apply Kd.R_drewN | apply Kd.R_drew)); exact HO_4.out) hg hat)).2.2) KL45.out)); have n3_ := Aside0.mk ((show Kd.C (Kd.int .i64) w49 A48 y168.length y168 from by rw [Ny168.out, KA48.out]; exact Kd.C_drop (m := (x6_9 : Int).toNat) (c := co42) ((Kd.R_reads' (Kd.R_after (ok := (fun _ => True)) (by (with_reducible repeat (first | apply Kd.R_alloc | apply Kd.R_drewN | apply Kd.R_drew)); exact HO_4.out) hg hat)).2.2) KL48.out ((Kd.R_reads' (Kd.R_after (ok := (fun _ => True)) (by (with_reducible repeat (first | apply Kd.R_alloc | apply Kd.R_drewN | apply Kd.R_drew)); exact HO_4.out) hg hat)).2.1))); have n4_ := Aside0.mk (ho); clear HO_4; clear HB; clear HR160; clear HR171; clear HO167; have HO_4 := n0_; have HB := n1_; have HR160 := n2_; have HR171 := n3_; have HO174 := n4_; clear n0_ n1_ n2_ n3_ n4_; clear ho hb hg hat)); try go_wp2_with (first | ((with_reducible refine gate_dst (N := 84) rfl ?_); refine Kd.R_lit (Kd.int .i64) _ 3 ?hg (N := 84) ?hd (xs := ([] : List Int)) (inner := []) (ok := fun _ => True) (okp := fun _ => True) ?hr ?hp (fun _ hk => hk) trivial (Below.refl _ _) (Nat.le_refl _) (by simp) ?_; (case hd => rfl); (case hg => rfl); (case hr => first | (go_simp; done) | (go_simp; rfl)); (case hp => exact (Reps.none _ _)); intro v155 w43 ho44 hb hg_ hnew_; clear hg_ hnew_; (first | rw [← Ny154.out] at ho44 | (simp only [Int.reduceToNat] at ho44; rw [← Ny154.out] at ho44)); have n0_ := Aside0.mk (Kd.R_elder' (by (with_reducible repeat (first | apply Kd.R_alloc | apply Kd.R_drewN | apply Kd.R_drew)); exact HO_4.out) (Kd.R_base ho44) hb); have n1_ := Aside0.mk (Kd.R_lower (Kd.R_new' ho44 (Kd.R_lt (by (with_reducible repeat (first | apply Kd.R_alloc | apply Kd.R_drewN | apply Kd.R_drew)); exact HO_4.out))) (below_size (by repeat (first | (with_reducible first | exact HB.out | apply below_alloc | apply pw_below_drewN | apply below_drew1) | exact HB.out)))); have n2_ := Aside0.mk (below_step (by repeat (first | (with_reducible first | exact HB.out | apply below_alloc | apply pw_below_drewN | apply below_drew1) | exact HB.out)) hb); clear HO_4; clear HB; have HO_4 := n0_; have HO156 := n1_; have HB := n2_; clear n0_ n1_ n2_; clear hb ho44; have q45 : (x6_9 : Int) ≤ ((x4_1.length : Int) : Int) := of_decide_eq_true (by first | (with_reducible assumption) | assumption); obtain ⟨i045, hi045, _, hsz45, _⟩ := info_parts info3; have hroom45 : x4_1.length ≤ co42 := (Kd.R_reads' HO_4.out).2.1; have hC45 : Kd.C (Kd.int .i64) _ (some ad152) x4_1.length x4_1 := (Kd.R_reads' HO_4.out).2.2; have hcut45 := cut_to (P := Tryz.prog) 25 3 .i64 Tryz.underlying25 hi045 (some ad152) x4_1.length co42 x6_9 (of_decide_eq_true (by first | (with_reducible assumption) | assumption)) q45 hroom45; have hr45 := Kd.C_take (m := (x6_9 : Int).toNat) hC45 (by omega); have hy45 : y157.length = (x6_9 : Int).toNat := (by rw [Ny157.out, List.length_take]; omega); rw [← Ny157.out] at hr45; rw [← hy45] at hcut45; have HR160 := Aside0.mk hr45; have HC160 := Aside0.mk (show y157.length ≤ co42 from by omega); clear hr45 hC45 hroom45 hi045 hsz45; have KY45 := Aside0.mk hy45; clear hy45; have KL45 := Aside0.mk (show (x6_9 : Int).toNat ≤ x4_1.length from by omega); replace q45 := eq_true q45) | ((with_reducible refine gate_builtin (b := .append) (xs := #[.tmp 84, .tmp 87]) rfl ?_); at_builtin; refine Kd.R_append_rows (Kd.int .i64) (w0 := w) w.heap.size rfl (.tmp 84) (.tmp 87) 25 3 (.int .i64 0) 8 rfl Tryz.underlying25 info3 rfl (by decide) (by omega) v155 y154 y157 _ _ _ (fun k_ => some k_ ≠ (.slice (some ad152) x4_1.length co42 : Value).ownBlock) (fun _ => False) rfl rfl ?aO ?aR (fun _ _ h => h) (fun _ h => h.elim) ?aF ?aB ?aS ?aL ?_; (case aR => repeat (first | exact (by repeat (first | (with_reducible exact HR160.out) | (with_reducible refine Kd.C_alloc ?_ _) | (with_reducible refine Kd.C_drewN ?_ _) | (with_reducible refine Kd.C_drew ?_) | exact HR160.out)) | (with_reducible refine Kd.C_alloc ?_ _) | (with_reducible refine Kd.C_drewN ?_ _) | (with_reducible refine Kd.C_drew ?_))); (case aB => exact (by repeat (first | (with_reducible first | exact HB.out | apply below_alloc | apply pw_below_drewN | apply below_drew1) | exact HB.out))); (case aF => exact (fun k_ hk => Kd.fresh' (Kd.R_lt (by (with_reducible repeat (first | apply Kd.R_alloc | apply Kd.R_drewN | apply Kd.R_drew)); exact HO_4.out)) k_ hk)); (case aO => exact (by (with_reducible repeat (first | apply Kd.R_alloc | apply Kd.R_drewN | apply Kd.R_drew)); exact Kd.R_mono HO156.out (fun _ hk => hk.2))); (case aS => exact (below_size (by repeat (first | (with_reducible first | exact HB.out | apply below_alloc | apply pw_below_drewN | apply below_drew1) | exact HB.out)))); (case aL => have := LMc37.out; omega); intro v162 w46 ho hb hg hat; rw [← Ny161.out] at ho; have n0_ := Aside0.mk (Kd.R_after (ok := (fun _ => True)) (by (with_reducible repeat (first | apply Kd.R_alloc | apply Kd.R_drewN | apply Kd.R_drew)); exact HO_4.out) hg hat); have n1_ := Aside0.mk (hb); have n2_ := Aside0.mk ((show Kd.C (Kd.int .i64) w46 (some ad152) y157.length y157 from by rw [Ny157.out]; exact Kd.C_take (m := (x6_9 : Int).toNat) ((Kd.R_reads' (Kd.R_after (ok := (fun _ => True)) (by (with_reducible repeat (first | apply Kd.R_alloc | apply Kd.R_drewN | apply Kd.R_drew)); exact HO_4.out) hg hat)).2.2) KL45.out)); have n3_ := Aside0.mk (ho); clear HO_4; clear HB; clear HR160; clear HO156; have HO_4 := n0_; have HB := n1_; have HR160 := n2_; have HO163 := n3_; clear n0_ n1_ n2_ n3_; clear ho hb hg hat; have p164 : 0 ≤ (x5_1 : Int) := of_decide_eq_true (by first | (with_reducible assumption) | assumption); have q164 : x5_1 < (l0.length : Int) := of_decide_eq_true (by first | (with_reducible assumption) | assumption); obtain ⟨ad164, e164, hx164_0⟩ := Kd.at_int HR0.out x5_1 p164 q164; obtain rfl : ad153 = ad164 := (by injection e164); replace hx164_0 := (HB.out.cell (World.block_lt_of_cell? w _ hx164_0)).trans hx164_0; replace p164 := eq_true p164; replace q164 := eq_true q164) | ((with_reducible refine gate_builtin (b := .append) (xs := #[.tmp 89, .tmp 94]) rfl ?_); at_builtin; refine Kd.R_append (Kd.int .i64) (w0 := w) w.heap.size rfl (.tmp 89) (.tmp 94) 25 3 (.int .i64 0) 8 rfl Tryz.underlying25 info3 rfl (by decide) (by omega) v162 y161 (rd l0 x5_1) [.int .i64 (rd l0 x5_1)] (fun k_ => some k_ ≠ (.slice (some ad152) x4_1.length co42 : Value).ownBlock) (fun _ => False) rfl rfl ?aP (fun _ hk => hk.elim) ?aF ?aO ?aB ?aS ?aL ?_; (case aP => exact rfl); (case aB => exact (by repeat (first | (with_reducible first | exact HB.out | apply below_alloc | apply pw_below_drewN | apply below_drew1) | exact HB.out))); (case aF => exact (fun k_ hk => Kd.fresh' (Kd.R_lt (by (with_reducible repeat (first | apply Kd.R_alloc | apply Kd.R_drewN | apply Kd.R_drew)); exact HO_4.out)) k_ hk)); (case aO => exact (by (with_reducible repeat (first | apply Kd.R_alloc | apply Kd.R_drewN | apply Kd.R_drew)); exact HO163.out)); (case aS => exact (below_size (by repeat (first | (with_reducible first | exact HB.out | apply below_alloc | apply pw_below_drewN | apply below_drew1) | exact HB.out)))); (case aL => have := LMc38.out; omega); intro v166 w47 ho hb hg hat; rw [← Ny165.out] at ho; have n0_ := Aside0.mk (Kd.R_after (ok := (fun _ => True)) (by (with_reducible repeat (first | apply Kd.R_alloc | apply Kd.R_drewN | apply Kd.R_drew)); exact HO_4.out) hg hat); have n1_ := Aside0.mk (hb); have n2_ := Aside0.mk ((show Kd.C (Kd.int .i64) w47 (some ad152) y157.length y157 from by rw [Ny157.out]; exact Kd.C_take (m := (x6_9 : Int).toNat) ((Kd.R_reads' (Kd.R_after (ok := (fun _ => True)) (by (with_reducible repeat (first | apply Kd.R_alloc | apply Kd.R_drewN | apply Kd.R_drew)); exact HO_4.out) hg hat)).2.2) KL45.out)); have n3_ := Aside0.mk (ho); clear HO_4; clear HB; clear HR160; clear HO163; have HO_4 := n0_; have HB := n1_; have HR160 := n2_; have HO167 := n3_; clear n0_ n1_ n2_ n3_; clear ho hb hg hat; have q48 : (x6_9 : Int) ≤ ((x4_1.length : Int) : Int) := of_decide_eq_true (by first | (with_reducible assumption) | assumption); obtain ⟨i048, hi048, _, hsz48, _⟩ := info_parts info3; have hroom48 : x4_1.length ≤ co42 := (Kd.R_reads' HO_4.out).2.1; have hC48 : Kd.C (Kd.int .i64) _ (some ad152) x4_1.length x4_1 := (Kd.R_reads' HO_4.out).2.2; have q048 : (0 : Int) ≤ (x6_9 : Int) := of_decide_eq_true (by first | (with_reducible assumption) | assumption); have hcut48 := cut_from (P := Tryz.prog) 25 3 .i64 Tryz.underlying25 hi048 1 hsz48 (some ad152) x4_1.length co42 x6_9 q048 q48; have hr48 := Kd.C_drop (m := (x6_9 : Int).toNat) (c := co42) hC48 (by omega) hroom48; obtain ⟨A48, hA48⟩ : ∃ A1, A1 = (if co42 = (x6_9 : Int).toNat then (some ad152) else ((some ad152) : Option Addr).map (·.add ((x6_9 : Int).toNat * 1))) := ⟨_, rfl⟩; obtain ⟨c48, hc48⟩ : ∃ c1, c1 = co42 - (x6_9 : Int).toNat := ⟨_, rfl⟩; have hy48 : y168.length = x4_1.length - (x6_9 : Int).toNat := (by rw [Ny168.out, List.length_drop] <;> omega); rw [show (x4_1).drop (x6_9 : Int).toNat = y168 from Ny168.out.symm] at hr48; replace hr48 : Kd.C (Kd.int .i64) _ A48 y168.length y168 := (by rw [hA48]; exact hr48); rw [← hy48, ← hA48, ← hc48] at hcut48; have HR171 := Aside0.mk hr48; have HC171 := Aside0.mk (show y168.length ≤ c48 from by rw [hy48, hc48]; exact Nat.sub_le_sub_right hroom48 _); clear hr48 hC48 hroom48 hi048 hsz48 hc48; have KY48 := Aside0.mk hy48; have KA48 := Aside0.mk hA48; clear hy48 hA48; have KL48 := Aside0.mk (show (x6_9 : Int).toNat ≤ x4_1.length from by omega); replace q48 := eq_true q48) | ((with_reducible refine gate_builtin (b := .append) (xs := #[.tmp 96, .tmp 99]) rfl ?_); at_builtin; refine Kd.R_append_rows (Kd.int .i64) (w0 := w) w.heap.size rfl (.tmp 96) (.tmp 99) 25 3 (.int .i64 0) 8 rfl Tryz.underlying25 info3 rfl (by decide) (by omega) v166 y165 y168 _ _ _ (fun k_ => some k_ ≠ (.slice (some ad152) x4_1.length co42 : Value).ownBlock) (fun _ => False) rfl rfl ?aO ?aR (fun _ _ h => h) (fun _ h => h.elim) ?aF ?aB ?aS ?aL ?_; (case aR => repeat (first | exact (by repeat (first | (with_reducible exact HR171.out) | (with_reducible refine Kd.C_alloc ?_ _) | (with_reducible refine Kd.C_drewN ?_ _) | (with_reducible refine Kd.C_drew ?_) | exact HR171.out)) | (with_reducible refine Kd.C_alloc ?_ _) | (with_reducible refine Kd.C_drewN ?_ _) | (with_reducible refine Kd.C_drew ?_))); (case aB => exact (by repeat (first | (with_reducible first | exact HB.out | apply below_alloc | apply pw_below_drewN | apply below_drew1) | exact HB.out))); (case aF => exact (fun k_ hk => Kd.fresh' (Kd.R_lt (by (with_reducible repeat (first | apply Kd.R_alloc | apply Kd.R_drewN | apply Kd.R_drew)); exact HO_4.out)) k_ hk)); (case aO => exact (by (with_reducible repeat (first | apply Kd.R_alloc | apply Kd.R_drewN | apply Kd.R_drew)); exact HO167.out)); (case aS => exact (below_size (by repeat (first | (with_reducible first | exact HB.out | apply below_alloc | apply pw_below_drewN | apply below_drew1) | exact HB.out)))); (case aL => have := LMc41.out; omega); intro v173 w49 ho hb hg hat; rw [← Ny172.out] at ho; have n0_ := Aside0.mk (Kd.R_after (ok := (fun _ => True)) (by (with_reducible repeat (first | apply Kd.R_alloc | apply Kd.R_drewN | apply Kd.R_drew)); exact HO_4.out) hg hat); have n1_ := Aside0.mk (hb); have n2_ := Aside0.mk ((show Kd.C (Kd.int .i64) w49 (some ad152) y157.length y157 from by rw [Ny157.out]; exact Kd.C_take (m := (x6_9 : Int).toNat) ((Kd.R_reads' (Kd.R_after (ok := (fun _ => True)) (by (with_reducible repeat (first | apply Kd.R_alloc | apply Kd.R_drewN | apply Kd.R_drew)); exact HO_4.out) hg hat)).2.2) KL45.out)); have n3_ := Aside0.mk ((show Kd.C (Kd.int .i64) w49 A48 y168.length y168 from by rw [Ny168.out, KA48.out]; exact Kd.C_drop (m := (x6_9 : Int).toNat) (c := co42) ((Kd.R_reads' (Kd.R_after (ok := (fun _ => True)) (by (with_reducible repeat (first | apply Kd.R_alloc | apply Kd.R_drewN | apply Kd.R_drew)); exact HO_4.out) hg hat)).2.2) KL48.out ((Kd.R_reads' (Kd.R_after (ok := (fun _ => True)) (by (with_reducible repeat (first | apply Kd.R_alloc | apply Kd.R_drewN | apply Kd.R_drew)); exact HO_4.out) hg hat)).2.1))); have n4_ := Aside0.mk (ho); clear HO_4; clear HB; clear HR160; clear HR171; clear HO167; have HO_4 := n0_; have HB := n1_; have HR160 := n2_; have HR171 := n3_; have HO174 := n4_; clear n0_ n1_ n2_ n3_ n4_; clear ho hb hg hat)))
                     go_roundg kj20
                     case measure => have := HK1.out; have := HJ4.out; have := HJ9.out; have := HJ20.out; omega
                     case rel => exact ⟨(y172), (wrap64 (x5_1 + 1)), (by first | rfl | (simp; done) | (simp [*]; done)), H', ⟨by have := HK1.out; have := HJ4.out; have := HJ9.out; have := HJ20.out; omega⟩, ⟨by (with_reducible repeat (first | apply Kd.R_alloc | apply Kd.R_drewN | apply Kd.R_drew)); exact Kd.R_mono HO174.out (fun _ hk => trivial)⟩, ⟨by repeat (first | (with_reducible first | exact HB.out | apply below_alloc | apply pw_below_drewN | apply below_drew1) | exact HB.out)⟩⟩
                    ·rw [if_neg c41] at H
                     exact absurd H (by simp)
                   ·rw [if_neg c38] at H
                    exact absurd H (by simp)
                  ·rw [if_neg c37] at H
                   exact absurd H (by simp)
                 ·rw [if_neg c36] at H
                  exact absurd H (by simp)
               ·rw [if_neg c32] at H
                exact absurd H (by simp)
              ·rw [if_neg c31] at H
               exact absurd H (by simp)
             ·rw [if_neg c30] at H
              exact absurd H (by simp)
            ·rw [if_neg c29] at H
             have c29b0 : decide (x6_9 < (x4_1.length : Int)) = false := decide_eq_false c29
             clear c29
             obtain ⟨y175, hy175⟩ : ∃ y_ : List Int, y_ = (([] : List Int)) := ⟨_, rfl⟩
             replace H : (if 0 ≤ x6_9 then (if x6_9 ≤ (x4_1.length : Int) then ((some (x4_1.take (x6_9 : Int).toNat : List Int)).bind fun y178 => (if y175.length + y178.length < 17592186044416 then ((some (y175 ++ y178 : List Int)).bind fun y182 => (if 0 ≤ x5_1 then (if x5_1 < (l0.length : Int) then (if y182.length < 17592186044416 then ((some (y182 ++ [rd l0 x5_1] : List Int)).bind fun y186 => ((some (x4_1.drop (x6_9 : Int).toNat : List Int)).bind fun y189 => (if y186.length + y189.length < 17592186044416 then (assessorref26_Normal.l0 kj20 l0 (y186 ++ y189) (wrap64 (x5_1 + 1))) else (none)))) else (none)) else (none)) else (none))) else (none))) else (none)) else (none)) = some (r1, r2) := by first | (rw [hy175]; with_reducible exact H) | (have H2_ := (Option.bind_some _ _).symm.trans H; rw [hy175]; with_reducible exact H2_) | (have H2_ := (Option.bind_some _ _).symm.trans H; with_reducible exact H2_) | with_reducible exact H | (rw [hy175]; exact H) | exact H
             have Ny175 := Aside0.mk hy175
             clear hy175
             by_cases c50 : 0 ≤ x6_9
             ·rw [if_pos c50] at H
              have c50b0 := eq_true c50
              have c50b1 : decide (0 ≤ x6_9) = true := decide_eq_true c50
              clear c50
              by_cases c51 : x6_9 ≤ (x4_1.length : Int)
              ·rw [if_pos c51] at H
               have c51b0 := eq_true c51
               have c51b1 : decide (x6_9 ≤ (x4_1.length : Int)) = true := decide_eq_true c51
               clear c51
               obtain ⟨y178, hy178⟩ : ∃ y_ : List Int, y_ = (x4_1.take (x6_9 : Int).toNat) := ⟨_, rfl⟩
               replace H : (if y175.length + y178.length < 17592186044416 then ((some (y175 ++ y178 : List Int)).bind fun y182 => (if 0 ≤ x5_1 then (if x5_1 < (l0.length : Int) then (if y182.length < 17592186044416 then ((some (y182 ++ [rd l0 x5_1] : List Int)).bind fun y186 => ((some (x4_1.drop (x6_9 : Int).toNat : List Int)).bind fun y189 => (if y186.length + y189.length < 17592186044416 then (assessorref26_Normal.l0 kj20 l0 (y186 ++ y189) (wrap64 (x5_1 + 1))) else (none)))) else (none)) else (none)) else (none))) else (none)) = some (r1, r2) := by first | (rw [hy178]; with_reducible exact H) | (have H2_ := (Option.bind_some _ _).symm.trans H; rw [hy178]; with_reducible exact H2_) | (have H2_ := (Option.bind_some _ _).symm.trans H; with_reducible exact H2_) | with_reducible exact H | (rw [hy178]; exact H) | exact H
               have Ny178 := Aside0.mk hy178
               clear hy178
               by_cases c52 : y175.length + y178.length < 17592186044416
               ·rw [if_pos c52] at H
                have LMc52 := Aside0.mk c52
                clear c52
                obtain ⟨y182, hy182⟩ : ∃ y_ : List Int, y_ = (y175 ++ y178) := ⟨_, rfl⟩
                replace H : (if 0 ≤ x5_1 then (if x5_1 < (l0.length : Int) then (if y182.length < 17592186044416 then ((some (y182 ++ [rd l0 x5_1] : List Int)).bind fun y186 => ((some (x4_1.drop (x6_9 : Int).toNat : List Int)).bind fun y189 => (if y186.length + y189.length < 17592186044416 then (assessorref26_Normal.l0 kj20 l0 (y186 ++ y189) (wrap64 (x5_1 + 1))) else (none)))) else (none)) else (none)) else (none)) = some (r1, r2) := by first | (rw [hy182]; with_reducible exact H) | (have H2_ := (Option.bind_some _ _).symm.trans H; rw [hy182]; with_reducible exact H2_) | (have H2_ := (Option.bind_some _ _).symm.trans H; with_reducible exact H2_) | with_reducible exact H | (rw [hy182]; exact H) | exact H
                have Ny182 := Aside0.mk hy182
                clear hy182
                by_cases c53 : 0 ≤ x5_1
                ·rw [if_pos c53] at H
                 have c53b0 : decide (0 ≤ x5_1) = true := decide_eq_true c53
                 clear c53
                 by_cases c54 : x5_1 < (l0.length : Int)
                 ·rw [if_pos c54] at H
                  have c54b0 : decide (x5_1 < (l0.length : Int)) = true := decide_eq_true c54
                  clear c54
                  by_cases c55 : y182.length < 17592186044416
                  ·rw [if_pos c55] at H
                   have LMc55 := Aside0.mk c55
                   clear c55
                   obtain ⟨y186, hy186⟩ : ∃ y_ : List Int, y_ = (y182 ++ [rd l0 x5_1]) := ⟨_, rfl⟩
                   replace H : ((some (x4_1.drop (x6_9 : Int).toNat : List Int)).bind fun y189 => (if y186.length + y189.length < 17592186044416 then (assessorref26_Normal.l0 kj20 l0 (y186 ++ y189) (wrap64 (x5_1 + 1))) else (none))) = some (r1, r2) := by first | (rw [hy186]; with_reducible exact H) | (have H2_ := (Option.bind_some _ _).symm.trans H; rw [hy186]; with_reducible exact H2_) | (have H2_ := (Option.bind_some _ _).symm.trans H; with_reducible exact H2_) | with_reducible exact H | (rw [hy186]; exact H) | exact H
                   have Ny186 := Aside0.mk hy186
                   clear hy186
                   have c56b0 := eq_true (of_decide_eq_true (by first | (with_reducible assumption) | assumption) : 0 ≤ x6_9)
                   have c57b0 := eq_true (of_decide_eq_true (by first | (with_reducible assumption) | assumption) : x6_9 ≤ (x4_1.length : Int))
                   obtain ⟨y189, hy189⟩ : ∃ y_ : List Int, y_ = (x4_1.drop (x6_9 : Int).toNat) := ⟨_, rfl⟩
                   replace H : (if y186.length + y189.length < 17592186044416 then (assessorref26_Normal.l0 kj20 l0 (y186 ++ y189) (wrap64 (x5_1 + 1))) else (none)) = some (r1, r2) := by first | (rw [hy189]; with_reducible exact H) | (have H2_ := (Option.bind_some _ _).symm.trans H; rw [hy189]; with_reducible exact H2_) | (have H2_ := (Option.bind_some _ _).symm.trans H; with_reducible exact H2_) | with_reducible exact H | (rw [hy189]; exact H) | exact H
                   have Ny189 := Aside0.mk hy189
                   clear hy189
                   by_cases c58 : y186.length + y189.length < 17592186044416
                   ·rw [if_pos c58] at H
                    have LMc58 := Aside0.mk c58
                    clear c58
                    obtain ⟨y193, hy193⟩ : ∃ y_ : List Int, y_ = (y186 ++ y189) := ⟨_, rfl⟩
                    replace H : (assessorref26_Normal.l0 kj20 l0 y193 (wrap64 (x5_1 + 1))) = some (r1, r2) := by first | (rw [hy193]; with_reducible exact H) | (have H2_ := (Option.bind_some _ _).symm.trans H; rw [hy193]; with_reducible exact H2_) | (have H2_ := (Option.bind_some _ _).symm.trans H; with_reducible exact H2_) | with_reducible exact H | (rw [hy193]; exact H) | exact H
                    have Ny193 := Aside0.mk hy193
                    clear hy193
                    have H' := Aside0.mk H
                    clear H
                    obtain ⟨Ao59, co59, eo59⟩ := Kd.R_slice HO_4.out
                    subst eo59
                    go_wp2_with (first | ((with_reducible refine gate_dst (N := 84) rfl ?_); refine Kd.R_lit (Kd.int .i64) _ 3 ?hg (N := 84) ?hd (xs := ([] : List Int)) (inner := []) (ok := fun _ => True) (okp := fun _ => True) ?hr ?hp (fun _ hk => hk) trivial (Below.refl _ _) (Nat.le_refl _) (by simp) ?_; (case hd => rfl); (case hg => rfl); (case hr => first | (go_simp; done) | (go_simp; rfl)); (case hp => exact (Reps.none _ _)); intro v176 w60 ho61 hb hg_ hnew_; clear hg_ hnew_; (first | rw [← Ny175.out] at ho61 | (simp only [Int.reduceToNat] at ho61; rw [← Ny175.out] at ho61)); have n0_ := Aside0.mk (Kd.R_elder' (by (with_reducible repeat (first | apply Kd.R_alloc | apply Kd.R_drewN | apply Kd.R_drew)); exact HO_4.out) (Kd.R_base ho61) hb); have n1_ := Aside0.mk (Kd.R_lower (Kd.R_new' ho61 (Kd.R_lt (by (with_reducible repeat (first | apply Kd.R_alloc | apply Kd.R_drewN | apply Kd.R_drew)); exact HO_4.out))) (below_size (by repeat (first | (with_reducible first | exact HB.out | apply below_alloc | apply pw_below_drewN | apply below_drew1) | exact HB.out)))); have n2_ := Aside0.mk (below_step (by repeat (first | (with_reducible first | exact HB.out | apply below_alloc | apply pw_below_drewN | apply below_drew1) | exact HB.out)) hb); clear HO_4; clear HB; have HO_4 := n0_; have HO177 := n1_; have HB := n2_; clear n0_ n1_ n2_; clear hb ho61; have q62 : (x6_9 : Int) ≤ ((x4_1.length : Int) : Int) := of_decide_eq_true (by first | (with_reducible assumption) | assumption); obtain ⟨i062, hi062, _, hsz62, _⟩ := info_parts info3; have hroom62 : x4_1.length ≤ co59 := (Kd.R_reads' HO_4.out).2.1; have hC62 : Kd.C (Kd.int .i64) _ Ao59 x4_1.length x4_1 := (Kd.R_reads' HO_4.out).2.2; have hcut62 := cut_to (P := Tryz.prog) 25 3 .i64 Tryz.underlying25 hi062 Ao59 x4_1.length co59 x6_9 (of_decide_eq_true (by first | (with_reducible assumption) | assumption)) q62 hroom62; have hr62 := Kd.C_take (m := (x6_9 : Int).toNat) hC62 (by omega); have hy62 : y178.length = (x6_9 : Int).toNat := (by rw [Ny178.out, List.length_take]; omega); rw [← Ny178.out] at hr62; rw [← hy62] at hcut62; have HR181 := Aside0.mk hr62; have HC181 := Aside0.mk (show y178.length ≤ co59 from by omega); clear hr62 hC62 hroom62 hi062 hsz62; have KY62 := Aside0.mk hy62; clear hy62; have KL62 := Aside0.mk (show (x6_9 : Int).toNat ≤ x4_1.length from by omega); replace q62 := eq_true q62) | ((with_reducible refine gate_builtin (b := .append) (xs := #[.tmp 84, .tmp 87]) rfl ?_); at_builtin; refine Kd.R_append_rows (Kd.int .i64) (w0 := w) w.heap.size rfl (.tmp 84) (.tmp 87) 25 3 (.int .i64 0) 8 rfl Tryz.underlying25 info3 rfl (by decide) (by omega) v176 y175 y178 _ _ _ (fun k_ => some k_ ≠ (.slice Ao59 x4_1.length co59 : Value).ownBlock) (fun _ => False) rfl rfl ?aO ?aR (fun _ _ h => h) (fun _ h => h.elim) ?aF ?aB ?aS ?aL ?_; (case aR => repeat (first | exact (by repeat (first | (with_reducible exact HR181.out) | (with_reducible refine Kd.C_alloc ?_ _) | (with_reducible refine Kd.C_drewN ?_ _) | (with_reducible refine Kd.C_drew ?_) | exact HR181.out)) | (with_reducible refine Kd.C_alloc ?_ _) | (with_reducible refine Kd.C_drewN ?_ _) | (with_reducible refine Kd.C_drew ?_))); (case aB => exact (by repeat (first | (with_reducible first | exact HB.out | apply below_alloc | apply pw_below_drewN | apply below_drew1) | exact HB.out))); (case aF => exact (fun k_ hk => Kd.fresh' (Kd.R_lt (by (with_reducible repeat (first | apply Kd.R_alloc | apply Kd.R_drewN | apply Kd.R_drew)); exact HO_4.out)) k_ hk)); (case aO => exact (by (with_reducible repeat (first | apply Kd.R_alloc | apply Kd.R_drewN | apply Kd.R_drew)); exact Kd.R_mono HO177.out (fun _ hk => hk.2))); (case aS => exact (below_size (by repeat (first | (with_reducible first | exact HB.out | apply below_alloc | apply pw_below_drewN | apply below_drew1) | exact HB.out)))); (case aL => have := LMc52.out; omega); intro v183 w63 ho hb hg hat; rw [← Ny182.out] at ho; have n0_ := Aside0.mk (Kd.R_after (ok := (fun _ => True)) (by (with_reducible repeat (first | apply Kd.R_alloc | apply Kd.R_drewN | apply Kd.R_drew)); exact HO_4.out) hg hat); have n1_ := Aside0.mk (hb); have n2_ := Aside0.mk ((show Kd.C (Kd.int .i64) w63 Ao59 y178.length y178 from by rw [Ny178.out]; exact Kd.C_take (m := (x6_9 : Int).toNat) ((Kd.R_reads' (Kd.R_after (ok := (fun _ => True)) (by (with_reducible repeat (first | apply Kd.R_alloc | apply Kd.R_drewN | apply Kd.R_drew)); exact HO_4.out) hg hat)).2.2) KL62.out)); have n3_ := Aside0.mk (ho); clear HO_4; clear HB; clear HR181; clear HO177; have HO_4 := n0_; have HB := n1_; have HR181 := n2_; have HO184 := n3_; clear n0_ n1_ n2_ n3_; clear ho hb hg hat; have p185 : 0 ≤ (x5_1 : Int) := of_decide_eq_true (by first | (with_reducible assumption) | assumption); have q185 : x5_1 < (l0.length : Int) := of_decide_eq_true (by first | (with_reducible assumption) | assumption); obtain ⟨ad185, e185, hx185_0⟩ := Kd.at_int HR0.out x5_1 p185 q185; cases e185; replace hx185_0 := (HB.out.cell (World.block_lt_of_cell? w _ hx185_0)).trans hx185_0; replace p185 := eq_true p185; replace q185 := eq_true q185) | ((with_reducible refine gate_builtin (b := .append) (xs := #[.tmp 89, .tmp 94]) rfl ?_); at_builtin; refine Kd.R_append (Kd.int .i64) (w0 := w) w.heap.size rfl (.tmp 89) (.tmp 94) 25 3 (.int .i64 0) 8 rfl Tryz.underlying25 info3 rfl (by decide) (by omega) v183 y182 (rd l0 x5_1) [.int .i64 (rd l0 x5_1)] (fun k_ => some k_ ≠ (.slice Ao59 x4_1.length co59 : Value).ownBlock) (fun _ => False) rfl rfl ?aP (fun _ hk => hk.elim) ?aF ?aO ?aB ?aS ?aL ?_; (case aP => exact rfl); (case aB => exact (by repeat (first | (with_reducible first | exact HB.out | apply below_alloc | apply pw_below_drewN | apply below_drew1) | exact HB.out))); (case aF => exact (fun k_ hk => Kd.fresh' (Kd.R_lt (by (with_reducible repeat (first | apply Kd.R_alloc | apply Kd.R_drewN | apply Kd.R_drew)); exact HO_4.out)) k_ hk)); (case aO => exact (by (with_reducible repeat (first | apply Kd.R_alloc | apply Kd.R_drewN | apply Kd.R_drew)); exact HO184.out)); (case aS => exact (below_size (by repeat (first | (with_reducible first | exact HB.out | apply below_alloc | apply pw_below_drewN | apply below_drew1) | exact HB.out)))); (case aL => have := LMc55.out; omega); intro v187 w64 ho hb hg hat; rw [← Ny186.out] at ho; have n0_ := Aside0.mk (Kd.R_after (ok := (fun _ => True)) (by (with_reducible repeat (first | apply Kd.R_alloc | apply Kd.R_drewN | apply Kd.R_drew)); exact HO_4.out) hg hat); have n1_ := Aside0.mk (hb); have n2_ := Aside0.mk ((show Kd.C (Kd.int .i64) w64 Ao59 y178.length y178 from by rw [Ny178.out]; exact Kd.C_take (m := (x6_9 : Int).toNat) ((Kd.R_reads' (Kd.R_after (ok := (fun _ => True)) (by (with_reducible repeat (first | apply Kd.R_alloc | apply Kd.R_drewN | apply Kd.R_drew)); exact HO_4.out) hg hat)).2.2) KL62.out)); have n3_ := Aside0.mk (ho); clear HO_4; clear HB; clear HR181; clear HO184; have HO_4 := n0_; have HB := n1_; have HR181 := n2_; have HO188 := n3_; clear n0_ n1_ n2_ n3_; clear ho hb hg hat; have q65 : (x6_9 : Int) ≤ ((x4_1.length : Int) : Int) := of_decide_eq_true (by first | (with_reducible assumption) | assumption); obtain ⟨i065, hi065, _, hsz65, _⟩ := info_parts info3; have hroom65 : x4_1.length ≤ co59 := (Kd.R_reads' HO_4.out).2.1; have hC65 : Kd.C (Kd.int .i64) _ Ao59 x4_1.length x4_1 := (Kd.R_reads' HO_4.out).2.2; have q065 : (0 : Int) ≤ (x6_9 : Int) := of_decide_eq_true (by first | (with_reducible assumption) | assumption); have hcut65 := cut_from (P := Tryz.prog) 25 3 .i64 Tryz.underlying25 hi065 1 hsz65 Ao59 x4_1.length co59 x6_9 q065 q65; have hr65 := Kd.C_drop (m := (x6_9 : Int).toNat) (c := co59) hC65 (by omega) hroom65; obtain ⟨A65, hA65⟩ : ∃ A1, A1 = (if co59 = (x6_9 : Int).toNat then Ao59 else (Ao59 : Option Addr).map (·.add ((x6_9 : Int).toNat * 1))) := ⟨_, rfl⟩; obtain ⟨c65, hc65⟩ : ∃ c1, c1 = co59 - (x6_9 : Int).toNat := ⟨_, rfl⟩; have hy65 : y189.length = x4_1.length - (x6_9 : Int).toNat := (by rw [Ny189.out, List.length_drop] <;> omega); rw [show (x4_1).drop (x6_9 : Int).toNat = y189 from Ny189.out.symm] at hr65; replace hr65 : Kd.C (Kd.int .i64) _ A65 y189.length y189 := (by rw [hA65]; exact hr65); rw [← hy65, ← hA65, ← hc65] at hcut65; have HR192 := Aside0.mk hr65; have HC192 := Aside0.mk (show y189.length ≤ c65 from by rw [hy65, hc65]; exact Nat.sub_le_sub_right hroom65 _); clear hr65 hC65 hroom65 hi065 hsz65 hc65; have KY65 := Aside0.mk hy65; have KA65 := Aside0.mk hA65; clear hy65 hA65; have KL65 := Aside0.mk (show (x6_9 : Int).toNat ≤ x4_1.length from by omega); replace q65 := eq_true q65) | ((with_reducible refine gate_builtin (b := .append) (xs := #[.tmp 96, .tmp 99]) rfl ?_); at_builtin; refine Kd.R_append_rows (Kd.int .i64) (w0 := w) w.heap.size rfl (.tmp 96) (.tmp 99) 25 3 (.int .i64 0) 8 rfl Tryz.underlying25 info3 rfl (by decide) (by omega) v187 y186 y189 _ _ _ (fun k_ => some k_ ≠ (.slice Ao59 x4_1.length co59 : Value).ownBlock) (fun _ => False) rfl rfl ?aO ?aR (fun _ _ h => h) (fun _ h => h.elim) ?aF ?aB ?aS ?aL ?_; (case aR => repeat (first | exact (by repeat (first | (with_reducible exact HR192.out) | (with_reducible refine Kd.C_alloc ?_ _) | (with_reducible refine Kd.C_drewN ?_ _) | (with_reducible refine Kd.C_drew ?_) | exact HR192.out)) | (with_reducible refine Kd.C_alloc ?_ _) | (with_reducible refine Kd.C_drewN ?_ _) | (with_reducible refine Kd.C_drew ?_))); (case aB => exact (by repeat (first | (with_reducible first | exact HB.out | apply below_alloc | apply pw_below_drewN | apply below_drew1) | exact HB.out))); (case aF => exact (fun k_ hk => Kd.fresh' (Kd.R_lt (by (with_reducible repeat (first | apply Kd.R_alloc | apply Kd.R_drewN | apply Kd.R_drew)); exact HO_4.out)) k_ hk)); (case aO => exact (by (with_reducible repeat (first | apply Kd.R_alloc | apply Kd.R_drewN | apply Kd.R_drew)); exact HO188.out)); (case aS => exact (below_size (by repeat (first | (with_reducible first | exact HB.out | apply below_alloc | apply pw_below_drewN | apply below_drew1) | exact HB.out)))); (case aL => have := LMc58.out; omega); intro v194 w66 ho hb hg hat; rw [← Ny193.out] at ho; have n0_ := Aside0.mk (Kd.R_after (ok := (fun _ => True)) (by (with_reducible repeat (first | apply Kd.R_alloc | apply Kd.R_drewN | apply Kd.R_drew)); exact HO_4.out) hg hat); have n1_ := Aside0.mk (hb); have n2_ := Aside0.mk ((show Kd.C (Kd.int .i64) w66 Ao59 y178.length y178 from by rw [Ny178.out]; exact Kd.C_take (m := (x6_9 : Int).toNat) ((Kd.R_reads' (Kd.R_after (ok := (fun _ => True)) (by (with_reducible repeat (first | apply Kd.R_alloc | apply Kd.R_drewN | apply Kd.R_drew)); exact HO_4.out) hg hat)).2.2) KL62.out)); have n3_ := Aside0.mk ((show Kd.C (Kd.int .i64) w66 A65 y189.length y189 from by rw [Ny189.out, KA65.out]; exact Kd.C_drop (m := (x6_9 : Int).toNat) (c := co59) ((Kd.R_reads' (Kd.R_after (ok := (fun _ => True)) (by (with_reducible repeat (first | apply Kd.R_alloc | apply Kd.R_drewN | apply Kd.R_drew)); exact HO_4.out) hg hat)).2.2) KL65.out ((Kd.R_reads' (Kd.R_after (ok := (fun _ => True)) (by (with_reducible repeat (first | apply Kd.R_alloc | apply Kd.R_drewN | apply Kd.R_drew)); exact HO_4.out) hg hat)).2.1))); have n4_ := Aside0.mk (ho); clear HO_4; clear HB; clear HR181; clear HR192; clear HO188; have HO_4 := n0_; have HB := n1_; have HR181 := n2_; have HR192 := n3_; have HO195 := n4_; clear n0_ n1_ n2_ n3_ n4_; clear ho hb hg hat))
                    repeat (go_quiet (first | ((with_reducible refine gate_dst (N := 84) rfl ?_); refine Kd.R_lit (Kd.int .i64) _ 3 ?hg (N := 84) ?hd (xs := ([] : List Int)) (inner := []) (ok := fun _ => True) (okp := fun _ => True) ?hr ?hp (fun _ hk => hk) trivial (Below.refl _ _) (Nat.le_refl _) (by simp) ?_; (case hd => rfl); (case hg => rfl); (case hr => first | (go_simp; done) | (go_simp; rfl)); (case hp => exact (Reps.none _ _)); intro v176 w60 ho61 hb hg_ hnew_; clear hg_ hnew_; (first | rw [← Ny175.out] at ho61 | (simp only [Int.reduceToNat] at ho61; rw [← Ny175.out] at ho61)); have n0_ := Aside0.mk (Kd.R_elder' (by (with_reducible repeat (first | apply Kd.R_alloc | apply Kd.R_drewN | apply Kd.R_drew)); exact HO_4.out) (Kd.R_base ho61) hb); have n1_ := Aside0.mk (Kd.R_lower (Kd.R_new' ho61 (Kd.R_lt (by (with_reducible repeat (first | apply Kd.R_alloc | apply Kd.R_drewN | apply Kd.R_drew)); exact HO_4.out))) (below_size (by repeat (first | (with_reducible first | exact HB.out | apply below_alloc | apply pw_below_drewN | apply below_drew1) | exact HB.out)))); have n2_ := Aside0.mk (below_step (by repeat (first | (with_reducible first | exact HB.out | apply below_alloc | apply pw_below_drewN | apply below_drew1) | exact HB.out)) hb); clear HO_4; clear HB; have HO_4 := n0_; have HO177 := n1_; have HB := n2_; clear n0_ n1_ n2_; clear hb ho61; have q62 : (x6_9 : Int) ≤ ((x4_1.length : Int) : Int) := of_decide_eq_true (by first | (with_reducible assumption) | assumption); obtain ⟨i062, hi062, _, hsz62, _⟩ := info_parts info3; have hroom62 : x4_1.length ≤ co59 := (Kd.R_reads' HO_4.out).2.1; have hC62 : Kd.C (Kd.int .i64) _ Ao59 x4_1.length x4_1 := (Kd.R_reads' HO_4.out).2.2; have hcut62 := cut_to (P := Tryz.prog) 25 3 .i64 Tryz.underlying25 hi062 Ao59 x4_1.length co59 x6_9 (of_decide_eq_true (by first | (with_reducible assumption) | assumption)) q62 hroom62; have hr62 := Kd.C_take (m := (x6_9 : Int).toNat) hC62 (by omega); have hy62 : y178.length = (x6_9 : Int).toNat := (by rw [Ny178.out, List.length_take]; omega); rw [← Ny178.out] at hr62; rw [← hy62] at hcut62; have HR181 := Aside0.mk hr62; have HC181 := Aside0.mk (show y178.length ≤ co59 from by omega); clear hr62 hC62 hroom62 hi062 hsz62; have KY62 := Aside0.mk hy62; clear hy62; have KL62 := Aside0.mk (show (x6_9 : Int).toNat ≤ x4_1.length from by omega); replace q62 := eq_true q62) | ((with_reducible refine gate_builtin (b := .append) (xs := #[.tmp 84, .tmp 87]) rfl ?_); at_builtin; refine Kd.R_append_rows (Kd.int .i64) (w0 := w) w.heap.size rfl (.tmp 84) (.tmp 87) 25 3 (.int .i64 0) 8 rfl Tryz.underlying25 info3 rfl (by decide) (by omega) v176 y175 y178 _ _ _ (fun k_ => some k_ ≠ (.slice Ao59 x4_1.length co59 : Value).ownBlock) (fun _ => False) rfl rfl ?aO ?aR (fun _ _ h => h) (fun _ h => h.elim) ?aF ?aB ?aS ?aL ?_; (case aR => repeat (first | exact (by repeat (first | (with_reducible exact HR181.out) | (with_reducible refine Kd.C_alloc ?_ _) | (with_reducible refine Kd.C_drewN ?_ _) | (with_reducible refine Kd.C_drew ?_) | exact HR181.out)) | (with_reducible refine Kd.C_alloc ?_ _) | (with_reducible refine Kd.C_drewN ?_ _) | (with_reducible refine Kd.C_drew ?_))); (case aB => exact (by repeat (first | (with_reducible first | exact HB.out | apply below_alloc | apply pw_below_drewN | apply below_drew1) | exact HB.out))); (case aF => exact (fun k_ hk => Kd.fresh' (Kd.R_lt (by (with_reducible repeat (first | apply Kd.R_alloc | apply Kd.R_drewN | apply Kd.R_drew)); exact HO_4.out)) k_ hk)); (case aO => exact (by (with_reducible repeat (first | apply Kd.R_alloc | apply Kd.R_drewN | apply Kd.R_drew)); exact Kd.R_mono HO177.out (fun _ hk => hk.2))); (case aS => exact (below_size (by repeat (first | (with_reducible first | exact HB.out | apply below_alloc | apply pw_below_drewN | apply below_drew1) | exact HB.out)))); (case aL => have := LMc52.out; omega); intro v183 w63 ho hb hg hat; rw [← Ny182.out] at ho; have n0_ := Aside0.mk (Kd.R_after (ok := (fun _ => True)) (by (with_reducible repeat (first | apply Kd.R_alloc | apply Kd.R_drewN | apply Kd.R_drew)); exact HO_4.out) hg hat); have n1_ := Aside0.mk (hb); have n2_ := Aside0.mk ((show Kd.C (Kd.int .i64) w63 Ao59 y178.length y178 from by rw [Ny178.out]; exact Kd.C_take (m := (x6_9 : Int).toNat) ((Kd.R_reads' (Kd.R_after (ok := (fun _ => True)) (by (with_reducible repeat (first | apply Kd.R_alloc | apply Kd.R_drewN | apply Kd.R_drew)); exact HO_4.out) hg hat)).2.2) KL62.out)); have n3_ := Aside0.mk (ho); clear HO_4; clear HB; clear HR181; clear HO177; have HO_4 := n0_; have HB := n1_; have HR181 := n2_; have HO184 := n3_; clear n0_ n1_ n2_ n3_; clear ho hb hg hat; have p185 : 0 ≤ (x5_1 : Int) := of_decide_eq_true (by first | (with_reducible assumption) | assumption); have q185 : x5_1 < (l0.length : Int) := of_decide_eq_true (by first | (with_reducible assumption) | assumption); obtain ⟨ad185, e185, hx185_0⟩ := Kd.at_int HR0.out x5_1 p185 q185; cases e185; replace hx185_0 := (HB.out.cell (World.block_lt_of_cell? w _ hx185_0)).trans hx185_0; replace p185 := eq_true p185; replace q185 := eq_true q185) | ((with_reducible refine gate_builtin (b := .append) (xs := #[.tmp 89, .tmp 94]) rfl ?_); at_builtin; refine Kd.R_append (Kd.int .i64) (w0 := w) w.heap.size rfl (.tmp 89) (.tmp 94) 25 3 (.int .i64 0) 8 rfl Tryz.underlying25 info3 rfl (by decide) (by omega) v183 y182 (rd l0 x5_1) [.int .i64 (rd l0 x5_1)] (fun k_ => some k_ ≠ (.slice Ao59 x4_1.length co59 : Value).ownBlock) (fun _ => False) rfl rfl ?aP (fun _ hk => hk.elim) ?aF ?aO ?aB ?aS ?aL ?_; (case aP => exact rfl); (case aB => exact (by repeat (first | (with_reducible first | exact HB.out | apply below_alloc | apply pw_below_drewN | apply below_drew1) | exact HB.out))); (case aF => exact (fun k_ hk => Kd.fresh' (Kd.R_lt (by (with_reducible repeat (first | apply Kd.R_alloc | apply Kd.R_drewN | apply Kd.R_drew)); exact HO_4.out)) k_ hk)); (case aO => exact (by (with_reducible repeat (first | apply Kd.R_alloc | apply Kd.R_drewN | apply Kd.R_drew)); exact HO184.out)); (case aS => exact (below_size (by repeat (first | (with_reducible first | exact HB.out | apply below_alloc | apply pw_below_drewN | apply below_drew1) | exact HB.out)))); (case aL => have := LMc55.out; omega); intro v187 w64 ho hb hg hat; rw [← Ny186.out] at ho; have n0_ := Aside0.mk (Kd.R_after (ok := (fun _ => True)) (by (with_reducible repeat (first | apply Kd.R_alloc | apply Kd.R_drewN | apply Kd.R_drew)); exact HO_4.out) hg hat); have n1_ := Aside0.mk (hb); have n2_ := Aside0.mk ((show Kd.C (Kd.int .i64) w64 Ao59 y178.length y178 from by rw [Ny178.out]; exact Kd.C_take (m := (x6_9 : Int).toNat) ((Kd.R_reads' (Kd.R_after (ok := (fun _ => True)) (by (with_reducible repeat (first | apply Kd.R_alloc | apply Kd.R_drewN | apply Kd.R_drew)); exact HO_4.out) hg hat)).2.2) KL62.out)); have n3_ := Aside0.mk (ho); clear HO_4; clear HB; clear HR181; clear HO184; have HO_4 := n0_; have HB := n1_; have HR181 := n2_; have HO188 := n3_; clear n0_ n1_ n2_ n3_; clear ho hb hg hat; have q65 : (x6_9 : Int) ≤ ((x4_1.length : Int) : Int) := of_decide_eq_true (by first | (with_reducible assumption) | assumption); obtain ⟨i065, hi065, _, hsz65, _⟩ := info_parts info3; have hroom65 : x4_1.length ≤ co59 := (Kd.R_reads' HO_4.out).2.1; have hC65 : Kd.C (Kd.int .i64) _ Ao59 x4_1.length x4_1 := (Kd.R_reads' HO_4.out).2.2; have q065 : (0 : Int) ≤ (x6_9 : Int) := of_decide_eq_true (by first | (with_reducible assumption) | assumption); have hcut65 := cut_from (P := Tryz.prog) 25 3 .i64 Tryz.underlying25 hi065 1 hsz65 Ao59 x4_1.length co59 x6_9 q065 q65; have hr65 := Kd.C_drop (m := (x6_9 : Int).toNat) (c := co59) hC65 (by omega) hroom65; obtain ⟨A65, hA65⟩ : ∃ A1, A1 = (if co59 = (x6_9 : Int).toNat then Ao59 else (Ao59 : Option Addr).map (·.add ((x6_9 : Int).toNat * 1))) := ⟨_, rfl⟩; obtain ⟨c65, hc65⟩ : ∃ c1, c1 = co59 - (x6_9 : Int).toNat := ⟨_, rfl⟩; have hy65 : y189.length = x4_1.length - (x6_9 : Int).toNat := (by rw [Ny189.out, List.length_drop] <;> omega); rw [show (x4_1).drop (x6_9 : Int).toNat = y189 from Ny189.out.symm] at hr65; replace hr65 : Kd.C (Kd.int .i64) _ A65 y189.length y189 := (by rw [hA65]; exact hr65); rw [← hy65, ← hA65, ← hc65] at hcut65; have HR192 := Aside0.mk hr65; have HC192 := Aside0.mk (show y189.length ≤ c65 from by rw [hy65, hc65]; exact Nat.sub_le_sub_right hroom65 _); clear hr65 hC65 hroom65 hi065 hsz65 hc65; have KY65 := Aside0.mk hy65; have KA65 := Aside0.mk hA65; clear hy65 hA65; have KL65 := Aside0.mk (show (x6_9 : Int).toNat ≤ x4_1.length from by omega); replace q65 := eq_true q65) | ((with_reducible refine gate_builtin (b := .append) (xs := #[.tmp 96, .tmp 99]) rfl ?_); at_builtin; refine Kd.R_append_rows (Kd.int .i64) (w0 := w) w.heap.size rfl (.tmp 96) (.tmp 99) 25 3 (.int .i64 0) 8 rfl Tryz.underlying25 info3 rfl (by decide) (by omega) v187 y186 y189 _ _ _ (fun k_ => some k_ ≠ (.slice Ao59 x4_1.length co59 : Value).ownBlock) (fun _ => False) rfl rfl ?aO ?aR (fun _ _ h => h) (fun _ h => h.elim) ?aF ?aB ?aS ?aL ?_; (case aR => repeat (first | exact (by repeat (first | (with_reducible exact HR192.out) | (with_reducible refine Kd.C_alloc ?_ _) | (with_reducible refine Kd.C_drewN ?_ _) | (with_reducible refine Kd.C_drew ?_) | exact HR192.out)) | (with_reducible refine Kd.C_alloc ?_ _) | (with_reducible refine Kd.C_drewN ?_ _) | (with_reducible refine Kd.C_drew ?_))); (case aB => exact (by repeat (first | (with_reducible first | exact HB.out | apply below_alloc | apply pw_below_drewN | apply below_drew1) | exact HB.out))); (case aF => exact (fun k_ hk => Kd.fresh' (Kd.R_lt (by (with_reducible repeat (first | apply Kd.R_alloc | apply Kd.R_drewN | apply Kd.R_drew)); exact HO_4.out)) k_ hk)); (case aO => exact (by (with_reducible repeat (first | apply Kd.R_alloc | apply Kd.R_drewN | apply Kd.R_drew)); exact HO188.out)); (case aS => exact (below_size (by repeat (first | (with_reducible first | exact HB.out | apply below_alloc | apply pw_below_drewN | apply below_drew1) | exact HB.out)))); (case aL => have := LMc58.out; omega); intro v194 w66 ho hb hg hat; rw [← Ny193.out] at ho; have n0_ := Aside0.mk (Kd.R_after (ok := (fun _ => True)) (by (with_reducible repeat (first | apply Kd.R_alloc | apply Kd.R_drewN | apply Kd.R_drew)); exact HO_4.out) hg hat); have n1_ := Aside0.mk (hb); have n2_ := Aside0.mk ((show Kd.C (Kd.int .i64) w66 Ao59 y178.length y178 from by rw [Ny178.out]; exact Kd.C_take (m := (x6_9 : Int).toNat) ((Kd.R_reads' (Kd.R_after (ok := (fun _ => True)) (by (with_reducible repeat (first | apply Kd.R_alloc | apply Kd.R_drewN | apply Kd.R_drew)); exact HO_4.out) hg hat)).2.2) KL62.out)); have n3_ := Aside0.mk ((show Kd.C (Kd.int .i64) w66 A65 y189.length y189 from by rw [Ny189.out, KA65.out]; exact Kd.C_drop (m := (x6_9 : Int).toNat) (c := co59) ((Kd.R_reads' (Kd.R_after (ok := (fun _ => True)) (by (with_reducible repeat (first | apply Kd.R_alloc | apply Kd.R_drewN | apply Kd.R_drew)); exact HO_4.out) hg hat)).2.2) KL65.out ((Kd.R_reads' (Kd.R_after (ok := (fun _ => True)) (by (with_reducible repeat (first | apply Kd.R_alloc | apply Kd.R_drewN | apply Kd.R_drew)); exact HO_4.out) hg hat)).2.1))); have n4_ := Aside0.mk (ho); clear HO_4; clear HB; clear HR181; clear HR192; clear HO188; have HO_4 := n0_; have HB := n1_; have HR181 := n2_; have HR192 := n3_; have HO195 := n4_; clear n0_ n1_ n2_ n3_ n4_; clear ho hb hg hat)); try go_wp2_with (first | ((with_reducible refine gate_dst (N := 84) rfl ?_); refine Kd.R_lit (Kd.int .i64) _ 3 ?hg (N := 84) ?hd (xs := ([] : List Int)) (inner := []) (ok := fun _ => True) (okp := fun _ => True) ?hr ?hp (fun _ hk => hk) trivial (Below.refl _ _) (Nat.le_refl _) (by simp) ?_; (case hd => rfl); (case hg => rfl); (case hr => first | (go_simp; done) | (go_simp; rfl)); (case hp => exact (Reps.none _ _)); intro v176 w60 ho61 hb hg_ hnew_; clear hg_ hnew_; (first | rw [← Ny175.out] at ho61 | (simp only [Int.reduceToNat] at ho61; rw [← Ny175.out] at ho61)); have n0_ := Aside0.mk (Kd.R_elder' (by (with_reducible repeat (first | apply Kd.R_alloc | apply Kd.R_drewN | apply Kd.R_drew)); exact HO_4.out) (Kd.R_base ho61) hb); have n1_ := Aside0.mk (Kd.R_lower (Kd.R_new' ho61 (Kd.R_lt (by (with_reducible repeat (first | apply Kd.R_alloc | apply Kd.R_drewN | apply Kd.R_drew)); exact HO_4.out))) (below_size (by repeat (first | (with_reducible first | exact HB.out | apply below_alloc | apply pw_below_drewN | apply below_drew1) | exact HB.out)))); have n2_ := Aside0.mk (below_step (by repeat (first | (with_reducible first | exact HB.out | apply below_alloc | apply pw_below_drewN | apply below_drew1) | exact HB.out)) hb); clear HO_4; clear HB; have HO_4 := n0_; have HO177 := n1_; have HB := n2_; clear n0_ n1_ n2_; clear hb ho61; have q62 : (x6_9 : Int) ≤ ((x4_1.length : Int) : Int) := of_decide_eq_true (by first | (with_reducible assumption) | assumption); obtain ⟨i062, hi062, _, hsz62, _⟩ := info_parts info3; have hroom62 : x4_1.length ≤ co59 := (Kd.R_reads' HO_4.out).2.1; have hC62 : Kd.C (Kd.int .i64) _ Ao59 x4_1.length x4_1 := (Kd.R_reads' HO_4.out).2.2; have hcut62 := cut_to (P := Tryz.prog) 25 3 .i64 Tryz.underlying25 hi062 Ao59 x4_1.length co59 x6_9 (of_decide_eq_true (by first | (with_reducible assumption) | assumption)) q62 hroom62; have hr62 := Kd.C_take (m := (x6_9 : Int).toNat) hC62 (by omega); have hy62 : y178.length = (x6_9 : Int).toNat := (by rw [Ny178.out, List.length_take]; omega); rw [← Ny178.out] at hr62; rw [← hy62] at hcut62; have HR181 := Aside0.mk hr62; have HC181 := Aside0.mk (show y178.length ≤ co59 from by omega); clear hr62 hC62 hroom62 hi062 hsz62; have KY62 := Aside0.mk hy62; clear hy62; have KL62 := Aside0.mk (show (x6_9 : Int).toNat ≤ x4_1.length from by omega); replace q62 := eq_true q62) | ((with_reducible refine gate_builtin (b := .append) (xs := #[.tmp 84, .tmp 87]) rfl ?_); at_builtin; refine Kd.R_append_rows (Kd.int .i64) (w0 := w) w.heap.size rfl (.tmp 84) (.tmp 87) 25 3 (.int .i64 0) 8 rfl Tryz.underlying25 info3 rfl (by decide) (by omega) v176 y175 y178 _ _ _ (fun k_ => some k_ ≠ (.slice Ao59 x4_1.length co59 : Value).ownBlock) (fun _ => False) rfl rfl ?aO ?aR (fun _ _ h => h) (fun _ h => h.elim) ?aF ?aB ?aS ?aL ?_; (case aR => repeat (first | exact (by repeat (first | (with_reducible exact HR181.out) | (with_reducible refine Kd.C_alloc ?_ _) | (with_reducible refine Kd.C_drewN ?_ _) | (with_reducible refine Kd.C_drew ?_) | exact HR181.out)) | (with_reducible refine Kd.C_alloc ?_ _) | (with_reducible refine Kd.C_drewN ?_ _) | (with_reducible refine Kd.C_drew ?_))); (case aB => exact (by repeat (first | (with_reducible first | exact HB.out | apply below_alloc | apply pw_below_drewN | apply below_drew1) | exact HB.out))); (case aF => exact (fun k_ hk => Kd.fresh' (Kd.R_lt (by (with_reducible repeat (first | apply Kd.R_alloc | apply Kd.R_drewN | apply Kd.R_drew)); exact HO_4.out)) k_ hk)); (case aO => exact (by (with_reducible repeat (first | apply Kd.R_alloc | apply Kd.R_drewN | apply Kd.R_drew)); exact Kd.R_mono HO177.out (fun _ hk => hk.2))); (case aS => exact (below_size (by repeat (first | (with_reducible first | exact HB.out | apply below_alloc | apply pw_below_drewN | apply below_drew1) | exact HB.out)))); (case aL => have := LMc52.out; omega); intro v183 w63 ho hb hg hat; rw [← Ny182.out] at ho; have n0_ := Aside0.mk (Kd.R_after (ok := (fun _ => True)) (by (with_reducible repeat (first | apply Kd.R_alloc | apply Kd.R_drewN | apply Kd.R_drew)); exact HO_4.out) hg hat); have n1_ := Aside0.mk (hb); have n2_ := Aside0.mk ((show Kd.C (Kd.int .i64) w63 Ao59 y178.length y178 from by rw [Ny178.out]; exact Kd.C_take (m := (x6_9 : Int).toNat) ((Kd.R_reads' (Kd.R_after (ok := (fun _ => True)) (by (with_reducible repeat (first | apply Kd.R_alloc | apply Kd.R_drewN | apply Kd.R_drew)); exact HO_4.out) hg hat)).2.2) KL62.out)); have n3_ := Aside0.mk (ho); clear HO_4; clear HB; clear HR181; clear HO177; have HO_4 := n0_; have HB := n1_; have HR181 := n2_; have HO184 := n3_; clear n0_ n1_ n2_ n3_; clear ho hb hg hat; have p185 : 0 ≤ (x5_1 : Int) := of_decide_eq_true (by first | (with_reducible assumption) | assumption); have q185 : x5_1 < (l0.length : Int) := of_decide_eq_true (by first | (with_reducible assumption) | assumption); obtain ⟨ad185, e185, hx185_0⟩ := Kd.at_int HR0.out x5_1 p185 q185; cases e185; replace hx185_0 := (HB.out.cell (World.block_lt_of_cell? w _ hx185_0)).trans hx185_0; replace p185 := eq_true p185; replace q185 := eq_true q185) | ((with_reducible refine gate_builtin (b := .append) (xs := #[.tmp 89, .tmp 94]) rfl ?_); at_builtin; refine Kd.R_append (Kd.int .i64) (w0 := w) w.heap.size rfl (.tmp 89) (.tmp 94) 25 3 (.int .i64 0) 8 rfl Tryz.underlying25 info3 rfl (by decide) (by omega) v183 y182 (rd l0 x5_1) [.int .i64 (rd l0 x5_1)] (fun k_ => some k_ ≠ (.slice Ao59 x4_1.length co59 : Value).ownBlock) (fun _ => False) rfl rfl ?aP (fun _ hk => hk.elim) ?aF ?aO ?aB ?aS ?aL ?_; (case aP => exact rfl); (case aB => exact (by repeat (first | (with_reducible first | exact HB.out | apply below_alloc | apply pw_below_drewN | apply below_drew1) | exact HB.out))); (case aF => exact (fun k_ hk => Kd.fresh' (Kd.R_lt (by (with_reducible repeat (first | apply Kd.R_alloc | apply Kd.R_drewN | apply Kd.R_drew)); exact HO_4.out)) k_ hk)); (case aO => exact (by (with_reducible repeat (first | apply Kd.R_alloc | apply Kd.R_drewN | apply Kd.R_drew)); exact HO184.out)); (case aS => exact (below_size (by repeat (first | (with_reducible first | exact HB.out | apply below_alloc | apply pw_below_drewN | apply below_drew1) | exact HB.out)))); (case aL => have := LMc55.out; omega); intro v187 w64 ho hb hg hat; rw [← Ny186.out] at ho; have n0_ := Aside0.mk (Kd.R_after (ok := (fun _ => True)) (by (with_reducible repeat (first | apply Kd.R_alloc | apply Kd.R_drewN | apply Kd.R_drew)); exact HO_4.out) hg hat); have n1_ := Aside0.mk (hb); have n2_ := Aside0.mk ((show Kd.C (Kd.int .i64) w64 Ao59 y178.length y178 from by rw [Ny178.out]; exact Kd.C_take (m := (x6_9 : Int).toNat) ((Kd.R_reads' (Kd.R_after (ok := (fun _ => True)) (by (with_reducible repeat (first | apply Kd.R_alloc | apply Kd.R_drewN | apply Kd.R_drew)); exact HO_4.out) hg hat)).2.2) KL62.out)); have n3_ := Aside0.mk (ho); clear HO_4; clear HB; clear HR181; clear HO184; have HO_4 := n0_; have HB := n1_; have HR181 := n2_; have HO188 := n3_; clear n0_ n1_ n2_ n3_; clear ho hb hg hat; have q65 : (x6_9 : Int) ≤ ((x4_1.length : Int) : Int) := of_decide_eq_true (by first | (with_reducible assumption) | assumption); obtain ⟨i065, hi065, _, hsz65, _⟩ := info_parts info3; have hroom65 : x4_1.length ≤ co59 := (Kd.R_reads' HO_4.out).2.1; have hC65 : Kd.C (Kd.int .i64) _ Ao59 x4_1.length x4_1 := (Kd.R_reads' HO_4.out).2.2; have q065 : (0 : Int) ≤ (x6_9 : Int) := of_decide_eq_true (by first | (with_reducible assumption) | assumption); have hcut65 := cut_from (P := Tryz.prog) 25 3 .i64 Tryz.underlying25 hi065 1 hsz65 Ao59 x4_1.length co59 x6_9 q065 q65; have hr65 := Kd.C_drop (m := (x6_9 : Int).toNat) (c := co59) hC65 (by omega) hroom65; obtain ⟨A65, hA65⟩ : ∃ A1, A1 = (if co59 = (x6_9 : Int).toNat then Ao59 else (Ao59 : Option Addr).map (·.add ((x6_9 : Int).toNat * 1))) := ⟨_, rfl⟩; obtain ⟨c65, hc65⟩ : ∃ c1, c1 = co59 - (x6_9 : Int).toNat := ⟨_, rfl⟩; have hy65 : y189.length = x4_1.length - (x6_9 : Int).toNat := (by rw [Ny189.out, List.length_drop] <;> omega); rw [show (x4_1).drop (x6_9 : Int).toNat = y189 from Ny189.out.symm] at hr65; replace hr65 : Kd.C (Kd.int .i64) _ A65 y189.length y189 := (by rw [hA65]; exact hr65); rw [← hy65, ← hA65, ← hc65] at hcut65; have HR192 := Aside0.mk hr65; have HC192 := Aside0.mk (show y189.length ≤ c65 from by rw [hy65, hc65]; exact Nat.sub_le_sub_right hroom65 _); clear hr65 hC65 hroom65 hi065 hsz65 hc65; have KY65 := Aside0.mk hy65; have KA65 := Aside0.mk hA65; clear hy65 hA65; have KL65 := Aside0.mk (show (x6_9 : Int).toNat ≤ x4_1.length from by omega); replace q65 := eq_true q65) | ((with_reducible refine gate_builtin (b := .append) (xs := #[.tmp 96, .tmp 99]) rfl ?_); at_builtin; refine Kd.R_append_rows (Kd.int .i64) (w0 := w) w.heap.size rfl (.tmp 96) (.tmp 99) 25 3 (.int .i64 0) 8 rfl Tryz.underlying25 info3 rfl (by decide) (by omega) v187 y186 y189 _ _ _ (fun k_ => some k_ ≠ (.slice Ao59 x4_1.length co59 : Value).ownBlock) (fun _ => False) rfl rfl ?aO ?aR (fun _ _ h => h) (fun _ h => h.elim) ?aF ?aB ?aS ?aL ?_; (case aR => repeat (first | exact (by repeat (first | (with_reducible exact HR192.out) | (with_reducible refine Kd.C_alloc ?_ _) | (with_reducible refine Kd.C_drewN ?_ _) | (with_reducible refine Kd.C_drew ?_) | exact HR192.out)) | (with_reducible refine Kd.C_alloc ?_ _) | (with_reducible refine Kd.C_drewN ?_ _) | (with_reducible refine Kd.C_drew ?_))); (case aB => exact (by repeat (first | (with_reducible first | exact HB.out | apply below_alloc | apply pw_below_drewN | apply below_drew1) | exact HB.out))); (case aF => exact (fun k_ hk => Kd.fresh' (Kd.R_lt (by (with_reducible repeat (first | apply Kd.R_alloc | apply Kd.R_drewN | apply Kd.R_drew)); exact HO_4.out)) k_ hk)); (case aO => exact (by (with_reducible repeat (first | apply Kd.R_alloc | apply Kd.R_drewN | apply Kd.R_drew)); exact HO188.out)); (case aS => exact (below_size (by repeat (first | (with_reducible first | exact HB.out | apply below_alloc | apply pw_below_drewN | apply below_drew1) | exact HB.out)))); (case aL => have := LMc58.out; omega); intro v194 w66 ho hb hg hat; rw [← Ny193.out] at ho; have n0_ := Aside0.mk (Kd.R_after (ok := (fun _ => True)) (by (with_reducible repeat (first | apply Kd.R_alloc | apply Kd.R_drewN | apply Kd.R_drew)); exact HO_4.out) hg hat); have n1_ := Aside0.mk (hb); have n2_ := Aside0.mk ((show Kd.C (Kd.int .i64) w66 Ao59 y178.length y178 from by rw [Ny178.out]; exact Kd.C_take (m := (x6_9 : Int).toNat) ((Kd.R_reads' (Kd.R_after (ok := (fun _ => True)) (by (with_reducible repeat (first | apply Kd.R_alloc | apply Kd.R_drewN | apply Kd.R_drew)); exact HO_4.out) hg hat)).2.2) KL62.out)); have n3_ := Aside0.mk ((show Kd.C (Kd.int .i64) w66 A65 y189.length y189 from by rw [Ny189.out, KA65.out]; exact Kd.C_drop (m := (x6_9 : Int).toNat) (c := co59) ((Kd.R_reads' (Kd.R_after (ok := (fun _ => True)) (by (with_reducible repeat (first | apply Kd.R_alloc | apply Kd.R_drewN | apply Kd.R_drew)); exact HO_4.out) hg hat)).2.2) KL65.out ((Kd.R_reads' (Kd.R_after (ok := (fun _ => True)) (by (with_reducible repeat (first | apply Kd.R_alloc | apply Kd.R_drewN | apply Kd.R_drew)); exact HO_4.out) hg hat)).2.1))); have n4_ := Aside0.mk (ho); clear HO_4; clear HB; clear HR181; clear HR192; clear HO188; have HO_4 := n0_; have HB := n1_; have HR181 := n2_; have HR192 := n3_; have HO195 := n4_; clear n0_ n1_ n2_ n3_ n4_; clear ho hb hg hat)))
                    go_roundg kj20
                    case measure => have := HK1.out; have := HJ4.out; have := HJ9.out; have := HJ20.out; omega
                    case rel => exact ⟨(y193), (wrap64 (x5_1 + 1)), (by first | rfl | (simp; done) | (simp [*]; done)), H', ⟨by have := HK1.out; have := HJ4.out; have := HJ9.out; have := HJ20.out; omega⟩, ⟨by (with_reducible repeat (first | apply Kd.R_alloc | apply Kd.R_drewN | apply Kd.R_drew)); exact Kd.R_mono HO195.out (fun _ hk => trivial)⟩, ⟨by repeat (first | (with_reducible first | exact HB.out | apply below_alloc | apply pw_below_drewN | apply below_drew1) | exact HB.out)⟩⟩
                   ·rw [if_neg c58] at H
                    exact absurd H (by simp)
                  ·rw [if_neg c55] at H
                   exact absurd H (by simp)
                 ·rw [if_neg c54] at H
                  exact absurd H (by simp)
                ·rw [if_neg c53] at H
                 exact absurd H (by simp)
               ·rw [if_neg c52] at H
                exact absurd H (by simp)
              ·rw [if_neg c51] at H
               exact absurd H (by simp)
             ·rw [if_neg c50] at H
              exact absurd H (by simp)
   ·rw [if_neg c4] at H
    have c4b0 : decide (x5_1 < (l0.length : Int)) = false := decide_eq_false c4
    clear c4
    simp only [Option.some.injEq, Prod.mk.injEq] at H
    obtain ⟨rfl, rfl⟩ := H
    go_wp2
    repeat (go_quiet (fail); try go_wp2)
    go_ret2
    exact ⟨_, by first | rfl | (simp [errW_none, errW_some] <;> rfl) | (simp [*, errW_none, errW_some] <;> rfl), by (with_reducible repeat (first | apply Kd.R_alloc | apply Kd.R_drewN | apply Kd.R_drew)); exact HO_4.out, by repeat (first | (with_reducible first | exact HB.out | apply below_alloc | apply pw_below_drewN | apply below_drew1) | exact HB.out)⟩

end Go.Proofs.YteaohgebocbehaaGreatDoor.XA
