/- Functions of the given Go program as Lean functions, each with a proof that the machine's call answers so; conditions: the premises written in each. -/
import Derived.Test.YteaohgebocbehaaGreatDoorXAx0
namespace Go.Proofs.YteaohgebocbehaaGreatDoor.XA
open Go.RowKit Go.Proofs.YteaohgebocbehaaGreatDoorW.PrintWords Go.Proofs.YteaohgebocbehaaGreatDoorW.PrintLast Go.Proofs.YteaohgebocbehaaGreatDoorW.PrintMore
attribute [local go_sem] max2_int min2_int max_two min_two max_three min_three max_four min_four   -- for this text's walks alone
set_option linter.unusedVariables false
set_option linter.unusedSimpArgs false

/-! ### assessorref26_Clauses: function 40 -/
mutual
def assessorref26_Clauses.l0 : Nat → List (List Int) → List (List Int) → Int → Option (Bool)
 | 0, _, _, _ => none
 | k + 1, x0, x1, x5 => if x5 < (x0.length : Int) then (if 0 ≤ x5 then (if x5 < (x1.length : Int) then (if ((rd_L1 x0 x5).length : Int) = ((rd_L1 x1 x5).length : Int) then (assessorref26_Clauses.l1 k x0 x1 x5 0) else (some false)) else (none)) else (none)) else (some true)
def assessorref26_Clauses.l1 : Nat → List (List Int) → List (List Int) → Int → Int → Option (Bool)
 | 0, _, _, _, _ => none
 | k + 1, x0, x1, x5, x6 => if 0 ≤ x5 then (if x5 < (x0.length : Int) then (if x6 < ((rd_L1 x0 x5).length : Int) then (if 0 ≤ x6 then (if x5 < (x1.length : Int) then (if x6 < ((rd_L1 x1 x5).length : Int) then (if (rd (rd_L1 x0 x5) x6) = (rd (rd_L1 x1 x5) x6) then (assessorref26_Clauses.l1 k x0 x1 x5 (wrap64 (x6 + 1))) else (some false)) else (none)) else (none)) else (none)) else (assessorref26_Clauses.l0 k x0 x1 (wrap64 (x5 + 1)))) else (none)) else (none)
end
def assessorref26_Clauses.f (k : Nat) (l0 : List (List Int)) (l1 : List (List Int)) : Option (Bool) := if (l0.length : Int) = (l1.length : Int) then (assessorref26_Clauses.l0 k l0 l1 0) else (some false)
theorem assessorref26_Clauses.mono_l : ∀ k, (∀ y0 y1 y2, LeO (assessorref26_Clauses.l0 k y0 y1 y2) (assessorref26_Clauses.l0 (k + 1) y0 y1 y2)) ∧ (∀ y0 y1 y2 y3, LeO (assessorref26_Clauses.l1 k y0 y1 y2 y3) (assessorref26_Clauses.l1 (k + 1) y0 y1 y2 y3))
 | 0 => ⟨fun _ _ _ r h => by simp [assessorref26_Clauses.l0] at h, fun _ _ _ _ r h => by simp [assessorref26_Clauses.l1] at h⟩
 | k + 1 => by
  obtain ⟨ih0, ih1⟩ := assessorref26_Clauses.mono_l k
  refine ⟨?_, ?_⟩
  ·intro y0 y1 y2
   unfold assessorref26_Clauses.l0
   repeat' first
   | (with_reducible exact ih0 _ _ _)
   | (with_reducible exact ih1 _ _ _ _)
   | (with_reducible exact LeO.refl _)
   | (with_reducible exact LeO.none _)
   | (with_reducible refine LeO.ite ?_ ?_)
   | (with_reducible refine LeO.bind ?_ (fun _ => ?_))
   | exact ih0 _ _ _
   | exact ih1 _ _ _ _
   | exact LeO.none _
   | refine LeO.ite ?_ ?_
   | refine LeO.bind ?_ (fun _ => ?_)
  ·intro y0 y1 y2 y3
   unfold assessorref26_Clauses.l1
   repeat' first
   | (with_reducible exact ih0 _ _ _)
   | (with_reducible exact ih1 _ _ _ _)
   | (with_reducible exact LeO.refl _)
   | (with_reducible exact LeO.none _)
   | (with_reducible refine LeO.ite ?_ ?_)
   | (with_reducible refine LeO.bind ?_ (fun _ => ?_))
   | exact ih0 _ _ _
   | exact ih1 _ _ _ _
   | exact LeO.none _
   | refine LeO.ite ?_ ?_
   | refine LeO.bind ?_ (fun _ => ?_)
theorem assessorref26_Clauses.mono : ∀ a0 a1 k, LeO (assessorref26_Clauses.f k a0 a1) (assessorref26_Clauses.f (k + 1) a0 a1) := by
 intro a0 a1 k
 obtain ⟨ih0, ih1⟩ := assessorref26_Clauses.mono_l k
 unfold assessorref26_Clauses.f
 repeat' first
   | (with_reducible exact ih0 _ _ _)
   | (with_reducible exact ih1 _ _ _ _)
   | (with_reducible exact LeO.refl _)
   | (with_reducible exact LeO.none _)
   | (with_reducible refine LeO.ite ?_ ?_)
   | (with_reducible refine LeO.bind ?_ (fun _ => ?_))
   | exact ih0 _ _ _
   | exact ih1 _ _ _ _
   | exact LeO.none _
   | refine LeO.ite ?_ ?_
   | refine LeO.bind ?_ (fun _ => ?_)
set_option maxHeartbeats 8000000 in
set_option maxRecDepth 100000 in
theorem assessorref26_Clauses.calls (k : Nat) (A0 : Option Addr) (c0 : Nat) (l0 : List (List Int)) (A1 : Option Addr) (c1 : Nat) (l1 : List (List Int)) (r : Bool) (w : World) (hr0 : Kd.C (Kd.slice 3 (Kd.int .i64)) w A0 l0.length l0) (hc0 : l0.length ≤ c0) (hr1 : Kd.C (Kd.slice 3 (Kd.int .i64)) w A1 l1.length l1) (hc1 : l1.length ≤ c1) (h : assessorref26_Clauses.f k l0 l1 = some r) :
  Calls Tryz.prog 40 #[.slice A0 l0.length c0, .slice A1 l1.length c1] w fun e w' => e = .returned (.bool r) ∧ Drawn0 w w' := by
 have HR0 := Aside0.mk hr0
 have HC0 := Aside0.mk hc0
 clear hr0 hc0
 have HR1 := Aside0.mk hr1
 have HC1 := Aside0.mk hc1
 clear hr1 hc1
 have H : (if (l0.length : Int) = (l1.length : Int) then (assessorref26_Clauses.l0 k l0 l1 0) else (some false)) = some r := h
 clear h
 by_cases c3 : (l0.length : Int) = (l1.length : Int)
 ·rw [if_pos c3] at H
  have c3b0 : ((l0.length : Int) == (l1.length : Int)) = true := beq_iff_eq.mpr c3
  have c3b1 : ((l0.length : Int) != (l1.length : Int)) = false := bne_eq_false_iff_eq.mpr c3
  have c3b2 : (l0.length == l1.length) = true := by first | simpa using c3 | (simp at c3 ⊢; omega)
  clear c3
  have H' := Aside0.mk H
  clear H
  go_enter Tryz.func40, Tryz.ntmps40
  go_wp2
  repeat (go_quiet (fail); try go_wp2)
  go_loopg [5] k (fun kq v5 w' => ∃ (x5_1 : Int), v5 = .int .i64 x5_1 ∧ Aside0 (assessorref26_Clauses.l0 kq l0 l1 x5_1 = some r) ∧ Aside0 (kq ≤ k) ∧ Drawn0 w w')
  case atStart => exact ⟨(0), (by first | rfl | (simp; done) | (simp [*]; done)), H', ⟨Nat.le_refl _⟩, by repeat (first | exact Drawn0.refl _ | apply Drawn0.step)⟩
  case round =>
   clear H'
   try clear c1
   try clear p2
   try clear c3
   try clear c3b0
   try clear c3b1
   try clear c3b2
   obtain ⟨x5_1, rfl, HA, HK1, ⟨m1, rfl⟩⟩ := hrel
   cases gk with
   | zero => exact absurd HA.out (by simp [assessorref26_Clauses.l0])
   | succ k1 =>
    have H := HA.out
    clear HA
    simp only [assessorref26_Clauses.l0] at H
    by_cases c4 : x5_1 < (l0.length : Int)
    ·rw [if_pos c4] at H
     have c4b0 : decide (x5_1 < (l0.length : Int)) = true := decide_eq_true c4
     clear c4
     by_cases c5 : 0 ≤ x5_1
     ·rw [if_pos c5] at H
      have c5b0 : decide (0 ≤ x5_1) = true := decide_eq_true c5
      clear c5
      by_cases c6 : x5_1 < (l1.length : Int)
      ·rw [if_pos c6] at H
       have c6b0 : decide (x5_1 < (l1.length : Int)) = true := decide_eq_true c6
       clear c6
       by_cases c7 : ((rd_L1 l0 x5_1).length : Int) = ((rd_L1 l1 x5_1).length : Int)
       ·rw [if_pos c7] at H
        have c7b0 : (((rd_L1 l0 x5_1).length : Int) == ((rd_L1 l1 x5_1).length : Int)) = true := beq_iff_eq.mpr c7
        have c7b1 : (((rd_L1 l0 x5_1).length : Int) != ((rd_L1 l1 x5_1).length : Int)) = false := bne_eq_false_iff_eq.mpr c7
        have c7b2 : ((rd_L1 l0 x5_1).length == (rd_L1 l1 x5_1).length) = true := by first | simpa using c7 | (simp at c7 ⊢; omega)
        clear c7
        have H' := Aside0.mk H
        clear H
        have p125 : 0 ≤ (x5_1 : Int) := of_decide_eq_true (by first | (with_reducible assumption) | assumption)
        have q125 : x5_1 < (l0.length : Int) := of_decide_eq_true (by first | (with_reducible assumption) | assumption)
        obtain ⟨ad125, A125_0, c125_0, e125, hx125_0, hl125_0, hi125_0⟩ := at_L1 HR0.out x5_1 p125 q125
        cases e125
        have HR125_0 := Aside0.mk hi125_0
        have HC125_0 := Aside0.mk hl125_0
        clear hi125_0 hl125_0
        replace p125 := eq_true p125
        replace q125 := eq_true q125
        have p126 : 0 ≤ (x5_1 : Int) := of_decide_eq_true (by first | (with_reducible assumption) | assumption)
        have q126 : x5_1 < (l1.length : Int) := of_decide_eq_true (by first | (with_reducible assumption) | assumption)
        obtain ⟨ad126, A126_0, c126_0, e126, hx126_0, hl126_0, hi126_0⟩ := at_L1 HR1.out x5_1 p126 q126
        cases e126
        have HR126_0 := Aside0.mk hi126_0
        have HC126_0 := Aside0.mk hl126_0
        clear hi126_0 hl126_0
        replace p126 := eq_true p126
        replace q126 := eq_true q126
        go_wp2
        repeat (go_quiet (fail); try go_wp2)
        go_loopg [6] k1 (fun kq v6 w' => ∃ (x6_2 : Int), v6 = .int .i64 x6_2 ∧ Aside0 (assessorref26_Clauses.l1 kq l0 l1 x5_1 x6_2 = some r) ∧ Aside0 (kq ≤ k1) ∧ Drawn0 w w')
        case atStart => exact ⟨(0), (by first | rfl | (simp; done) | (simp [*]; done)), H', ⟨Nat.le_refl _⟩, by repeat (first | exact Drawn0.refl _ | apply Drawn0.step)⟩
        case round =>
         clear H'
         try clear c1
         try clear p1
         try clear q1
         try clear hx1
         try clear p2
         try clear c3
         try clear c3b0
         try clear c3b1
         try clear c3b2
         try clear c4
         try clear c4b0
         try clear c5
         try clear c5b0
         try clear c6
         try clear c6b0
         try clear c7
         try clear c7b0
         try clear c7b1
         try clear c7b2
         try clear hx125_0
         try clear hx126_0
         try clear p125
         try clear p126
         try clear p2
         try clear q125
         try clear q126
         obtain ⟨x6_2, rfl, HA, HK2, ⟨m2, rfl⟩⟩ := hrel
         cases gk with
         | zero => exact absurd HA.out (by simp [assessorref26_Clauses.l1])
         | succ k2 =>
          have H := HA.out
          clear HA
          simp only [assessorref26_Clauses.l1] at H
          by_cases c8 : 0 ≤ x5_1
          ·rw [if_pos c8] at H
           have c8b0 : decide (0 ≤ x5_1) = true := decide_eq_true c8
           clear c8
           by_cases c9 : x5_1 < (l0.length : Int)
           ·rw [if_pos c9] at H
            have c9b0 : decide (x5_1 < (l0.length : Int)) = true := decide_eq_true c9
            clear c9
            by_cases c10 : x6_2 < ((rd_L1 l0 x5_1).length : Int)
            ·rw [if_pos c10] at H
             have c10b0 : decide (x6_2 < ((rd_L1 l0 x5_1).length : Int)) = true := decide_eq_true c10
             clear c10
             by_cases c11 : 0 ≤ x6_2
             ·rw [if_pos c11] at H
              have c11b0 : decide (0 ≤ x6_2) = true := decide_eq_true c11
              clear c11
              by_cases c12 : x5_1 < (l1.length : Int)
              ·rw [if_pos c12] at H
               have c12b0 : decide (x5_1 < (l1.length : Int)) = true := decide_eq_true c12
               clear c12
               by_cases c13 : x6_2 < ((rd_L1 l1 x5_1).length : Int)
               ·rw [if_pos c13] at H
                have c13b0 : decide (x6_2 < ((rd_L1 l1 x5_1).length : Int)) = true := decide_eq_true c13
                clear c13
                by_cases c14 : (rd (rd_L1 l0 x5_1) x6_2) = (rd (rd_L1 l1 x5_1) x6_2)
                ·rw [if_pos c14] at H
                 have c14b0 : ((rd (rd_L1 l0 x5_1) x6_2) == (rd (rd_L1 l1 x5_1) x6_2)) = true := beq_iff_eq.mpr c14
                 have c14b1 : ((rd (rd_L1 l0 x5_1) x6_2) != (rd (rd_L1 l1 x5_1) x6_2)) = false := bne_eq_false_iff_eq.mpr c14
                 clear c14
                 have H' := Aside0.mk H
                 clear H
                 have p127 : 0 ≤ (x5_1 : Int) := of_decide_eq_true (by first | (with_reducible assumption) | assumption)
                 have q127 : x5_1 < (l0.length : Int) := of_decide_eq_true (by first | (with_reducible assumption) | assumption)
                 obtain ⟨ad127, A127_0, c127_0, e127, hx127_0, hl127_0, hi127_0⟩ := at_L1 HR0.out x5_1 p127 q127
                 obtain rfl : ad125 = ad127 := (by injection e127)
                 have HR127_0 := Aside0.mk hi127_0
                 have HC127_0 := Aside0.mk hl127_0
                 clear hi127_0 hl127_0
                 replace p127 := eq_true p127
                 replace q127 := eq_true q127
                 have p128 : 0 ≤ (x5_1 : Int) := of_decide_eq_true (by first | (with_reducible assumption) | assumption)
                 have q128 : x5_1 < (l0.length : Int) := of_decide_eq_true (by first | (with_reducible assumption) | assumption)
                 obtain ⟨ad128, A128_0, c128_0, e128, hx128_0, hl128_0, hi128_0⟩ := at_L1 HR0.out x5_1 p128 q128
                 obtain rfl : ad125 = ad128 := (by injection e128)
                 have HR128_0 := Aside0.mk hi128_0
                 have HC128_0 := Aside0.mk hl128_0
                 clear hi128_0 hl128_0
                 replace p128 := eq_true p128
                 replace q128 := eq_true q128
                 have ea_ := Option.some.inj (hx127_0.symm.trans hx128_0)
                 injection ea_ with ea_ en_ ec_
                 subst ea_
                 subst ec_
                 clear en_
                 have p129 : 0 ≤ (x6_2 : Int) := of_decide_eq_true (by first | (with_reducible assumption) | assumption)
                 have q129 : x6_2 < ((rd_L1 l0 x5_1).length : Int) := of_decide_eq_true (by first | (with_reducible assumption) | assumption)
                 obtain ⟨ad129, e129, hx129_0⟩ := Kd.at_int HR128_0.out x6_2 p129 q129
                 cases e129
                 replace p129 := eq_true p129
                 replace q129 := eq_true q129
                 have p130 : 0 ≤ (x5_1 : Int) := of_decide_eq_true (by first | (with_reducible assumption) | assumption)
                 have q130 : x5_1 < (l1.length : Int) := of_decide_eq_true (by first | (with_reducible assumption) | assumption)
                 obtain ⟨ad130, A130_0, c130_0, e130, hx130_0, hl130_0, hi130_0⟩ := at_L1 HR1.out x5_1 p130 q130
                 obtain rfl : ad126 = ad130 := (by injection e130)
                 have HR130_0 := Aside0.mk hi130_0
                 have HC130_0 := Aside0.mk hl130_0
                 clear hi130_0 hl130_0
                 replace p130 := eq_true p130
                 replace q130 := eq_true q130
                 have p131 : 0 ≤ (x6_2 : Int) := of_decide_eq_true (by first | (with_reducible assumption) | assumption)
                 have q131 : x6_2 < ((rd_L1 l1 x5_1).length : Int) := of_decide_eq_true (by first | (with_reducible assumption) | assumption)
                 obtain ⟨ad131, e131, hx131_0⟩ := Kd.at_int HR130_0.out x6_2 p131 q131
                 cases e131
                 replace p131 := eq_true p131
                 replace q131 := eq_true q131
                 go_wp2
                 repeat (go_quiet (fail); try go_wp2)
                 go_roundg k2
                 case measure => have := HK1.out; have := HK2.out; omega
                 case rel => exact ⟨(wrap64 (x6_2 + 1)), (by first | rfl | (simp; done) | (simp [*]; done)), H', ⟨by have := HK1.out; have := HK2.out; omega⟩, by repeat (first | exact Drawn0.refl _ | apply Drawn0.step)⟩
                ·rw [if_neg c14] at H
                 have c14b0 : ((rd (rd_L1 l0 x5_1) x6_2) == (rd (rd_L1 l1 x5_1) x6_2)) = false := beq_eq_false_iff_ne.mpr c14
                 have c14b1 : ((rd (rd_L1 l0 x5_1) x6_2) != (rd (rd_L1 l1 x5_1) x6_2)) = true := bne_iff_ne.mpr c14
                 obtain rfl := Option.some.inj H
                 have p127 : 0 ≤ (x5_1 : Int) := of_decide_eq_true (by first | (with_reducible assumption) | assumption)
                 have q127 : x5_1 < (l0.length : Int) := of_decide_eq_true (by first | (with_reducible assumption) | assumption)
                 obtain ⟨ad127, A127_0, c127_0, e127, hx127_0, hl127_0, hi127_0⟩ := at_L1 HR0.out x5_1 p127 q127
                 obtain rfl : ad125 = ad127 := (by injection e127)
                 have HR127_0 := Aside0.mk hi127_0
                 have HC127_0 := Aside0.mk hl127_0
                 clear hi127_0 hl127_0
                 replace p127 := eq_true p127
                 replace q127 := eq_true q127
                 have p128 : 0 ≤ (x5_1 : Int) := of_decide_eq_true (by first | (with_reducible assumption) | assumption)
                 have q128 : x5_1 < (l0.length : Int) := of_decide_eq_true (by first | (with_reducible assumption) | assumption)
                 obtain ⟨ad128, A128_0, c128_0, e128, hx128_0, hl128_0, hi128_0⟩ := at_L1 HR0.out x5_1 p128 q128
                 obtain rfl : ad125 = ad128 := (by injection e128)
                 have HR128_0 := Aside0.mk hi128_0
                 have HC128_0 := Aside0.mk hl128_0
                 clear hi128_0 hl128_0
                 replace p128 := eq_true p128
                 replace q128 := eq_true q128
                 have ea_ := Option.some.inj (hx127_0.symm.trans hx128_0)
                 injection ea_ with ea_ en_ ec_
                 subst ea_
                 subst ec_
                 clear en_
                 have p129 : 0 ≤ (x6_2 : Int) := of_decide_eq_true (by first | (with_reducible assumption) | assumption)
                 have q129 : x6_2 < ((rd_L1 l0 x5_1).length : Int) := of_decide_eq_true (by first | (with_reducible assumption) | assumption)
                 obtain ⟨ad129, e129, hx129_0⟩ := Kd.at_int HR128_0.out x6_2 p129 q129
                 cases e129
                 replace p129 := eq_true p129
                 replace q129 := eq_true q129
                 have p130 : 0 ≤ (x5_1 : Int) := of_decide_eq_true (by first | (with_reducible assumption) | assumption)
                 have q130 : x5_1 < (l1.length : Int) := of_decide_eq_true (by first | (with_reducible assumption) | assumption)
                 obtain ⟨ad130, A130_0, c130_0, e130, hx130_0, hl130_0, hi130_0⟩ := at_L1 HR1.out x5_1 p130 q130
                 obtain rfl : ad126 = ad130 := (by injection e130)
                 have HR130_0 := Aside0.mk hi130_0
                 have HC130_0 := Aside0.mk hl130_0
                 clear hi130_0 hl130_0
                 replace p130 := eq_true p130
                 replace q130 := eq_true q130
                 have p131 : 0 ≤ (x6_2 : Int) := of_decide_eq_true (by first | (with_reducible assumption) | assumption)
                 have q131 : x6_2 < ((rd_L1 l1 x5_1).length : Int) := of_decide_eq_true (by first | (with_reducible assumption) | assumption)
                 obtain ⟨ad131, e131, hx131_0⟩ := Kd.at_int HR130_0.out x6_2 p131 q131
                 cases e131
                 replace p131 := eq_true p131
                 replace q131 := eq_true q131
                 go_wp2
                 repeat (go_quiet (fail); try go_wp2)
                 go_ret
                 exact ⟨by first | rfl | (simp; done) | (simp [*]; done), by repeat (first | exact Drawn0.refl _ | apply Drawn0.step)⟩
               ·rw [if_neg c13] at H
                exact absurd H (by simp)
              ·rw [if_neg c12] at H
               exact absurd H (by simp)
             ·rw [if_neg c11] at H
              exact absurd H (by simp)
            ·rw [if_neg c10] at H
             have c10b0 : decide (x6_2 < ((rd_L1 l0 x5_1).length : Int)) = false := decide_eq_false c10
             clear c10
             have H' := Aside0.mk H
             clear H
             have p127 : 0 ≤ (x5_1 : Int) := of_decide_eq_true (by first | (with_reducible assumption) | assumption)
             have q127 : x5_1 < (l0.length : Int) := of_decide_eq_true (by first | (with_reducible assumption) | assumption)
             obtain ⟨ad127, A127_0, c127_0, e127, hx127_0, hl127_0, hi127_0⟩ := at_L1 HR0.out x5_1 p127 q127
             obtain rfl : ad125 = ad127 := (by injection e127)
             have HR127_0 := Aside0.mk hi127_0
             have HC127_0 := Aside0.mk hl127_0
             clear hi127_0 hl127_0
             replace p127 := eq_true p127
             replace q127 := eq_true q127
             go_wp2
             repeat (go_quiet (fail); try go_wp2)
             go_roundg k2
             case measure => have := HK1.out; have := HK2.out; omega
             case rel => exact ⟨(wrap64 (x5_1 + 1)), (by first | rfl | (simp; done) | (simp [*]; done)), H', ⟨by have := HK1.out; have := HK2.out; omega⟩, by repeat (first | exact Drawn0.refl _ | apply Drawn0.step)⟩
           ·rw [if_neg c9] at H
            exact absurd H (by simp)
          ·rw [if_neg c8] at H
           exact absurd H (by simp)
       ·rw [if_neg c7] at H
        have c7b0 : (((rd_L1 l0 x5_1).length : Int) == ((rd_L1 l1 x5_1).length : Int)) = false := beq_eq_false_iff_ne.mpr c7
        have c7b1 : (((rd_L1 l0 x5_1).length : Int) != ((rd_L1 l1 x5_1).length : Int)) = true := bne_iff_ne.mpr c7
        have c7b2 : ((rd_L1 l0 x5_1).length == (rd_L1 l1 x5_1).length) = false := by first | simpa using c7 | (simp at c7 ⊢; omega)
        obtain rfl := Option.some.inj H
        have p125 : 0 ≤ (x5_1 : Int) := of_decide_eq_true (by first | (with_reducible assumption) | assumption)
        have q125 : x5_1 < (l0.length : Int) := of_decide_eq_true (by first | (with_reducible assumption) | assumption)
        obtain ⟨ad125, A125_0, c125_0, e125, hx125_0, hl125_0, hi125_0⟩ := at_L1 HR0.out x5_1 p125 q125
        cases e125
        have HR125_0 := Aside0.mk hi125_0
        have HC125_0 := Aside0.mk hl125_0
        clear hi125_0 hl125_0
        replace p125 := eq_true p125
        replace q125 := eq_true q125
        have p126 : 0 ≤ (x5_1 : Int) := of_decide_eq_true (by first | (with_reducible assumption) | assumption)
        have q126 : x5_1 < (l1.length : Int) := of_decide_eq_true (by first | (with_reducible assumption) | assumption)
        obtain ⟨ad126, A126_0, c126_0, e126, hx126_0, hl126_0, hi126_0⟩ := at_L1 HR1.out x5_1 p126 q126
        cases e126
        have HR126_0 := Aside0.mk hi126_0
        have HC126_0 := Aside0.mk hl126_0
        clear hi126_0 hl126_0
        replace p126 := eq_true p126
        replace q126 := eq_true q126
        go_wp2
        repeat (go_quiet (fail); try go_wp2)
        go_ret
        exact ⟨by first | rfl | (simp; done) | (simp [*]; done), by repeat (first | exact Drawn0.refl _ | apply Drawn0.step)⟩
      ·rw [if_neg c6] at H
       exact absurd H (by simp)
     ·rw [if_neg c5] at H
      exact absurd H (by simp)
    ·rw [if_neg c4] at H
     have c4b0 : decide (x5_1 < (l0.length : Int)) = false := decide_eq_false c4
     clear c4
     obtain rfl := Option.some.inj H
     go_wp2
     repeat (go_quiet (fail); try go_wp2)
     go_ret
     exact ⟨by first | rfl | (simp; done) | (simp [*]; done), by repeat (first | exact Drawn0.refl _ | apply Drawn0.step)⟩
 ·rw [if_neg c3] at H
  have c3b0 : ((l0.length : Int) == (l1.length : Int)) = false := beq_eq_false_iff_ne.mpr c3
  have c3b1 : ((l0.length : Int) != (l1.length : Int)) = true := bne_iff_ne.mpr c3
  have c3b2 : (l0.length == l1.length) = false := by first | simpa using c3 | (simp at c3 ⊢; omega)
  obtain rfl := Option.some.inj H
  go_enter Tryz.func40, Tryz.ntmps40
  go_wp2
  repeat (go_quiet (fail); try go_wp2)
  go_ret
  exact ⟨by first | rfl | (simp; done) | (simp [*]; done), by repeat (first | exact Drawn0.refl _ | apply Drawn0.step)⟩

-- NOT PRINTED: function 10 (assessorlaw26_awake)

/-! ### assessorref26_Small: function 11 -/
def assessorref26_Small.l0 : Nat → Int → Int → Int → Int → List (List Int) → Option (Bool)
 | 0, _, _, _, _, _ => none
 | k + 1, x1, x2, x7, x139000, x139001 => if x7 < (x139001.length : Int) then (if 0 ≤ x7 then (if ((rd_L1 x139001 x7).length : Int) > 30 then (some false) else (assessorref26_Small.l0 k x1 x2 (wrap64 (x7 + 1)) x139000 x139001)) else (none)) else (if x139000 ≤ x1 then (some (decide ((x139001.length : Int) ≤ x2))) else (some false))
def assessorref26_Small.f (k : Nat) (a0_0 : Int) (l0_1 : List (List Int)) (a1 : Int) (a2 : Int) : Option (Bool) := assessorref26_Small.l0 k a1 a2 0 a0_0 l0_1
theorem assessorref26_Small.mono_l : ∀ k, (∀ y0 y1 y2 y3 y4, LeO (assessorref26_Small.l0 k y0 y1 y2 y3 y4) (assessorref26_Small.l0 (k + 1) y0 y1 y2 y3 y4))
 | 0 => fun _ _ _ _ _ r h => by simp [assessorref26_Small.l0] at h
 | k + 1 => by
  have ih0 := assessorref26_Small.mono_l k
  ·intro y0 y1 y2 y3 y4
   unfold assessorref26_Small.l0
   repeat' first
   | (with_reducible exact ih0 _ _ _ _ _)
   | (with_reducible exact LeO.refl _)
   | (with_reducible exact LeO.none _)
   | (with_reducible refine LeO.ite ?_ ?_)
   | (with_reducible refine LeO.bind ?_ (fun _ => ?_))
   | exact ih0 _ _ _ _ _
   | exact LeO.none _
   | refine LeO.ite ?_ ?_
   | refine LeO.bind ?_ (fun _ => ?_)
theorem assessorref26_Small.mono : ∀ a0 a1 a2 a3 k, LeO (assessorref26_Small.f k a0 a1 a2 a3) (assessorref26_Small.f (k + 1) a0 a1 a2 a3) := by
 intro a0 a1 a2 a3 k
 have ih0 := assessorref26_Small.mono_l k
 unfold assessorref26_Small.f
 repeat' first
   | (with_reducible exact ih0 _ _ _ _ _)
   | (with_reducible exact LeO.refl _)
   | (with_reducible exact LeO.none _)
   | (with_reducible refine LeO.ite ?_ ?_)
   | (with_reducible refine LeO.bind ?_ (fun _ => ?_))
   | exact ih0 _ _ _ _ _
   | exact LeO.none _
   | refine LeO.ite ?_ ?_
   | refine LeO.bind ?_ (fun _ => ?_)
set_option maxHeartbeats 8000000 in
set_option maxRecDepth 100000 in
theorem assessorref26_Small.calls (k : Nat) (a0_0 : Int) (A0_1 : Option Addr) (c0_1 : Nat) (l0_1 : List (List Int)) (a1 : Int) (a2 : Int) (r : Bool) (w : World) (hr0_1 : Kd.C (Kd.slice 3 (Kd.int .i64)) w A0_1 l0_1.length l0_1) (hc0_1 : l0_1.length ≤ c0_1) (h : assessorref26_Small.f k a0_0 l0_1 a1 a2 = some r) :
  Calls Tryz.prog 11 #[.agg #[.int .i64 a0_0, .slice A0_1 l0_1.length c0_1], .int .i64 a1, .int .i64 a2] w fun e w' => e = .returned (.bool r) ∧ Below w.heap.size w w' := by
 have hu24 := Tryz.underlying24
 have HR0_1 := Aside0.mk hr0_1
 have HC0_1 := Aside0.mk hc0_1
 clear hr0_1 hc0_1
 have HB := Aside0.mk (Below.refl w.heap.size w)
 have H : (assessorref26_Small.l0 k a1 a2 0 a0_0 l0_1) = some r := h
 clear h
 have H' := Aside0.mk H
 clear H
 go_enter Tryz.func11, Tryz.ntmps11
 go_wp2_with (first | ((with_reducible refine gate_dst (N := 3) rfl ?_); (try (refine gate_guard (by rfl) ?_; dsimp only)); refine box_event ?hg (N := 3) ?hd (cs := #[.int .i64 a0_0, .slice A0_1 l0_1.length c0_1]) (t := 24) ?hr ?_; (case hd => rfl); (case hg => rfl); (case hr => first | (go_simp; done) | (go_simp; rfl)); intro gb138 hg w4 hbox hb; have n0_ := Aside0.mk (below_step (by repeat (first | (with_reducible first | exact HB.out | apply below_alloc | apply pw_below_drewN | apply below_drew1) | exact HB.out)) hb); have n1_ := Aside0.mk (hbox); have n2_ := Aside0.mk ((by rw [hg]; exact (below_size (by repeat (first | (with_reducible first | exact HB.out | apply below_alloc | apply pw_below_drewN | apply below_drew1) | exact HB.out))) : w.heap.size ≤ gb138)); have n3_ := Aside0.mk ((by rw [hg]; exact (below_size (by repeat (first | (with_reducible first | exact HB.out | apply below_alloc | apply pw_below_drewN | apply below_drew1) | exact HB.out))) : w.heap.size ≤ gb138)); clear HB; have HB := n0_; have BK138 := n1_; have GW138 := n2_; have GE138 := n3_; clear n0_ n1_ n2_ n3_; clear hb hbox hg))
 go_loopg [7] k (fun kq v7 w' => ∃ (x7_1 : Int), v7 = .int .i64 x7_1 ∧ Aside0 (assessorref26_Small.l0 kq a1 a2 x7_1 a0_0 l0_1 = some r) ∧ Aside0 (kq ≤ k) ∧ Aside0 (w'.heap[gb138]? = some (.cells #[.int .i64 a0_0, (.slice A0_1 l0_1.length c0_1)] 24 (0, 0))) ∧ Aside0 (Below w.heap.size w w'))
 case atStart => exact ⟨(0), (by first | rfl | (simp; done) | (simp [*]; done)), H', ⟨Nat.le_refl _⟩, ⟨by (with_reducible repeat (first | refine blk_drewN ?_ _ | refine blk_drew ?_ | refine blk_alloc ?_ _)); exact BK138.out⟩, ⟨by repeat (first | (with_reducible first | exact HB.out | apply below_alloc | apply pw_below_drewN | apply below_drew1 | refine below_set ?_ GE138.out) | exact HB.out)⟩⟩
 case round =>
  clear H'
  try clear c1
  try clear p2
  obtain ⟨x7_1, rfl, HA, HK1, BK138, HB⟩ := hrel
  cases gk with
  | zero => exact absurd HA.out (by simp [assessorref26_Small.l0])
  | succ k1 =>
   have H := HA.out
   clear HA
   simp only [assessorref26_Small.l0] at H
   by_cases c5 : x7_1 < (l0_1.length : Int)
   ·rw [if_pos c5] at H
    have c5b0 : decide (x7_1 < (l0_1.length : Int)) = true := decide_eq_true c5
    clear c5
    by_cases c6 : 0 ≤ x7_1
    ·rw [if_pos c6] at H
     have c6b0 : decide (0 ≤ x7_1) = true := decide_eq_true c6
     clear c6
     by_cases c7 : ((rd_L1 l0_1 x7_1).length : Int) > 30
     ·rw [if_pos c7] at H
      have c7b0 : decide (30 < ((rd_L1 l0_1 x7_1).length : Int)) = true := decide_eq_true c7
      have c7b1 : decide (30 < (rd_L1 l0_1 x7_1).length) = true := decide_eq_true (by omega)
      clear c7
      obtain rfl := Option.some.inj H
      have hcz8_0 : wr.cell? ⟨gb138, 0, none⟩ = some (.int .i64 a0_0) := (blk_cell BK138.out 0).trans rfl
      have hcz8_1 : wr.cell? ⟨gb138, 1, none⟩ = some (.slice A0_1 l0_1.length c0_1) := (blk_cell BK138.out 1).trans rfl
      have hfz8_0 := blk_frozen BK138.out 0
      have hfz8_1 := blk_frozen BK138.out 1
      have p139 : 0 ≤ (x7_1 : Int) := of_decide_eq_true (by first | (with_reducible assumption) | assumption)
      have q139 : x7_1 < (l0_1.length : Int) := of_decide_eq_true (by first | (with_reducible assumption) | assumption)
      obtain ⟨ad139, A139_0, c139_0, e139, hx139_0, hl139_0, hi139_0⟩ := at_L1 HR0_1.out x7_1 p139 q139
      cases e139
      replace hx139_0 := (HB.out.cell (World.block_lt_of_cell? w _ hx139_0)).trans hx139_0
      have HR139_0 := Aside0.mk hi139_0
      have HC139_0 := Aside0.mk hl139_0
      clear hi139_0 hl139_0
      replace p139 := eq_true p139
      replace q139 := eq_true q139
      go_wp2
      go_ret
      exact ⟨by first | rfl | (simp [errW_none, errW_some] <;> rfl) | (simp [*, errW_none, errW_some] <;> rfl), by repeat (first | (with_reducible first | exact HB.out | apply below_alloc | apply pw_below_drewN | apply below_drew1 | refine below_set ?_ GE138.out) | exact HB.out)⟩
     ·rw [if_neg c7] at H
      have c7b0 : decide (30 < ((rd_L1 l0_1 x7_1).length : Int)) = false := decide_eq_false c7
      have c7b1 : decide (30 < (rd_L1 l0_1 x7_1).length) = false := decide_eq_false (by omega)
      clear c7
      have H' := Aside0.mk H
      clear H
      have hcz9_0 : wr.cell? ⟨gb138, 0, none⟩ = some (.int .i64 a0_0) := (blk_cell BK138.out 0).trans rfl
      have hcz9_1 : wr.cell? ⟨gb138, 1, none⟩ = some (.slice A0_1 l0_1.length c0_1) := (blk_cell BK138.out 1).trans rfl
      have hfz9_0 := blk_frozen BK138.out 0
      have hfz9_1 := blk_frozen BK138.out 1
      have p139 : 0 ≤ (x7_1 : Int) := of_decide_eq_true (by first | (with_reducible assumption) | assumption)
      have q139 : x7_1 < (l0_1.length : Int) := of_decide_eq_true (by first | (with_reducible assumption) | assumption)
      obtain ⟨ad139, A139_0, c139_0, e139, hx139_0, hl139_0, hi139_0⟩ := at_L1 HR0_1.out x7_1 p139 q139
      cases e139
      replace hx139_0 := (HB.out.cell (World.block_lt_of_cell? w _ hx139_0)).trans hx139_0
      have HR139_0 := Aside0.mk hi139_0
      have HC139_0 := Aside0.mk hl139_0
      clear hi139_0 hl139_0
      replace p139 := eq_true p139
      replace q139 := eq_true q139
      go_wp2
      go_roundg k1
      case measure => have := HK1.out; omega
      case rel => exact ⟨(wrap64 (x7_1 + 1)), (by first | rfl | (simp; done) | (simp [*]; done)), H', ⟨by have := HK1.out; omega⟩, ⟨by (with_reducible repeat (first | refine blk_drewN ?_ _ | refine blk_drew ?_ | refine blk_alloc ?_ _)); exact BK138.out⟩, ⟨by repeat (first | (with_reducible first | exact HB.out | apply below_alloc | apply pw_below_drewN | apply below_drew1 | refine below_set ?_ GE138.out) | exact HB.out)⟩⟩
    ·rw [if_neg c6] at H
     exact absurd H (by simp)
   ·rw [if_neg c5] at H
    have c5b0 : decide (x7_1 < (l0_1.length : Int)) = false := decide_eq_false c5
    clear c5
    by_cases c10 : a0_0 ≤ a1
    ·rw [if_pos c10] at H
     have c10b0 : decide (a0_0 ≤ a1) = true := decide_eq_true c10
     clear c10
     obtain rfl := Option.some.inj H
     have hcz11_0 : wr.cell? ⟨gb138, 0, none⟩ = some (.int .i64 a0_0) := (blk_cell BK138.out 0).trans rfl
     have hcz11_1 : wr.cell? ⟨gb138, 1, none⟩ = some (.slice A0_1 l0_1.length c0_1) := (blk_cell BK138.out 1).trans rfl
     have hfz11_0 := blk_frozen BK138.out 0
     have hfz11_1 := blk_frozen BK138.out 1
     go_wp2
     go_ret
     exact ⟨by first | rfl | (simp [errW_none, errW_some] <;> rfl) | (simp [*, errW_none, errW_some] <;> rfl), by repeat (first | (with_reducible first | exact HB.out | apply below_alloc | apply pw_below_drewN | apply below_drew1 | refine below_set ?_ GE138.out) | exact HB.out)⟩
    ·rw [if_neg c10] at H
     have c10b0 : decide (a0_0 ≤ a1) = false := decide_eq_false c10
     clear c10
     obtain rfl := Option.some.inj H
     have hcz12_0 : wr.cell? ⟨gb138, 0, none⟩ = some (.int .i64 a0_0) := (blk_cell BK138.out 0).trans rfl
     have hcz12_1 : wr.cell? ⟨gb138, 1, none⟩ = some (.slice A0_1 l0_1.length c0_1) := (blk_cell BK138.out 1).trans rfl
     have hfz12_0 := blk_frozen BK138.out 0
     have hfz12_1 := blk_frozen BK138.out 1
     go_wp2
     go_ret
     exact ⟨by first | rfl | (simp [errW_none, errW_some] <;> rfl) | (simp [*, errW_none, errW_some] <;> rfl), by repeat (first | (with_reducible first | exact HB.out | apply below_alloc | apply pw_below_drewN | apply below_drew1 | refine below_set ?_ GE138.out) | exact HB.out)⟩

/-! ### assessorref26_Variable: function 31 -/
def assessorref26_Variable.f (a0 : Int) : Option (Int) := if a0 < 0 then (some (wrap64 (-a0))) else (some a0)
set_option maxHeartbeats 8000000 in
set_option maxRecDepth 100000 in
theorem assessorref26_Variable.calls (a0 : Int) (r : Int) (w : World) (h : assessorref26_Variable.f a0 = some r) :
  Calls Tryz.prog 31 #[.int .i64 a0] w fun e w' => e = .returned (.int .i64 r) ∧ Drawn0 w w' := by
 have H : (if a0 < 0 then (some (wrap64 (-a0))) else (some a0)) = some r := h
 clear h
 by_cases c2 : a0 < 0
 ·rw [if_pos c2] at H
  have c2b0 : decide (a0 < 0) = true := decide_eq_true c2
  clear c2
  obtain rfl := Option.some.inj H
  go_enter Tryz.func31, Tryz.ntmps31
  go_wp2
  go_ret
  exact ⟨by first | rfl | (simp; done) | (simp [*]; done), by repeat (first | exact Drawn0.refl _ | apply Drawn0.step)⟩
 ·rw [if_neg c2] at H
  have c2b0 : decide (a0 < 0) = false := decide_eq_false c2
  clear c2
  obtain rfl := Option.some.inj H
  go_enter Tryz.func31, Tryz.ntmps31
  go_wp2
  go_ret
  exact ⟨by first | rfl | (simp; done) | (simp [*]; done), by repeat (first | exact Drawn0.refl _ | apply Drawn0.step)⟩

end Go.Proofs.YteaohgebocbehaaGreatDoor.XA
