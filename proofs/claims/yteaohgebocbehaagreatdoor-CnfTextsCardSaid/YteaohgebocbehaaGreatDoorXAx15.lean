/- Functions of the given Go program as Lean functions, each with a proof that the machine's call answers so; conditions: the premises written in each. -/
import Derived.Test.YteaohgebocbehaaGreatDoorXAx0
import Derived.Test.YteaohgebocbehaaGreatDoorXAx6
import Derived.Test.YteaohgebocbehaaGreatDoorXAx12
namespace Go.Proofs.YteaohgebocbehaaGreatDoor.XA
open Go.RowKit Go.Proofs.YteaohgebocbehaaGreatDoorW.PrintWords Go.Proofs.YteaohgebocbehaaGreatDoorW.PrintLast Go.Proofs.YteaohgebocbehaaGreatDoorW.PrintMore
attribute [local go_sem] max2_int min2_int max_two min_two max_three min_three max_four min_four   -- for this text's walks alone
set_option linter.unusedVariables false
set_option linter.unusedSimpArgs false

/-! ### assessorref26_Line: function 70 -/
def assessorref26_Line.l0 : Nat → List Int → ByteArray → Int → Option (ByteArray)
 | 0, _, _, _ => none
 | k + 1, x0, x3, x4 => if x4 < (x0.length : Int) then (if 0 ≤ x4 then ((assessorref26_Decimal.f k (rd x0 x4)).bind fun t346 => (if x3.size + t346.size ≤ 9223372036854775807 then (if (x3 ++ t346).size + 1 ≤ 9223372036854775807 then (assessorref26_Line.l0 k x0 ((x3 ++ t346) ++ (⟨#[32]⟩ : ByteArray)) (wrap64 (x4 + 1))) else (none)) else (none))) else (none)) else (if x3.size + 2 ≤ 9223372036854775807 then (some (x3 ++ (⟨#[48, 10]⟩ : ByteArray))) else (none))
def assessorref26_Line.f (k : Nat) (l0 : List Int) : Option (ByteArray) := assessorref26_Line.l0 k l0 (⟨#[]⟩ : ByteArray) 0
theorem assessorref26_Line.mono_l : ∀ k, (∀ y0 y1 y2, LeO (assessorref26_Line.l0 k y0 y1 y2) (assessorref26_Line.l0 (k + 1) y0 y1 y2))
 | 0 => fun _ _ _ r h => by simp [assessorref26_Line.l0] at h
 | k + 1 => by
  have ih0 := assessorref26_Line.mono_l k
  ·intro y0 y1 y2
   unfold assessorref26_Line.l0
   repeat' first
   | (with_reducible exact ih0 _ _ _)
   | (with_reducible exact assessorref26_Decimal.mono _ _)
   | (with_reducible exact LeO.refl _)
   | (with_reducible exact LeO.none _)
   | (with_reducible refine LeO.ite ?_ ?_)
   | (with_reducible refine LeO.bind ?_ (fun _ => ?_))
   | exact ih0 _ _ _
   | exact assessorref26_Decimal.mono _ _
   | exact LeO.none _
   | refine LeO.ite ?_ ?_
   | refine LeO.bind ?_ (fun _ => ?_)
theorem assessorref26_Line.mono : ∀ a0 k, LeO (assessorref26_Line.f k a0) (assessorref26_Line.f (k + 1) a0) := by
 intro a0 k
 have ih0 := assessorref26_Line.mono_l k
 unfold assessorref26_Line.f
 repeat' first
   | (with_reducible exact ih0 _ _ _)
   | (with_reducible exact assessorref26_Decimal.mono _ _)
   | (with_reducible exact LeO.refl _)
   | (with_reducible exact LeO.none _)
   | (with_reducible refine LeO.ite ?_ ?_)
   | (with_reducible refine LeO.bind ?_ (fun _ => ?_))
   | exact ih0 _ _ _
   | exact assessorref26_Decimal.mono _ _
   | exact LeO.none _
   | refine LeO.ite ?_ ?_
   | refine LeO.bind ?_ (fun _ => ?_)
set_option maxHeartbeats 8000000 in
set_option maxRecDepth 100000 in
theorem assessorref26_Line.calls (k : Nat) (A0 : Option Addr) (c0 : Nat) (l0 : List Int) (r : ByteArray) (w : World) (hr0 : Kd.C (Kd.int .i64) w A0 l0.length l0) (hc0 : l0.length ≤ c0) (h : assessorref26_Line.f k l0 = some r) :
  Calls Tryz.prog 70 #[.slice A0 l0.length c0] w fun e w' => e = .returned (.string r) ∧ Drawn0 w w' := by
 have HR0 := Aside0.mk hr0
 have HC0 := Aside0.mk hc0
 clear hr0 hc0
 have H : (assessorref26_Line.l0 k l0 (⟨#[]⟩ : ByteArray) 0) = some r := h
 clear h
 have H' := Aside0.mk H
 clear H
 go_enter Tryz.func70, Tryz.ntmps70
 go_wp2
 go_loopg [3, 4] k (fun kq v3 v4 w' => ∃ (x3_1 : ByteArray) (x4_1 : Int), v3 = .string x3_1 ∧ v4 = .int .i64 x4_1 ∧ Aside0 (assessorref26_Line.l0 kq l0 x3_1 x4_1 = some r) ∧ Aside0 (kq ≤ k) ∧ Drawn0 w w')
 case atStart => exact ⟨((⟨#[]⟩ : ByteArray)), (0), (by first | rfl | (simp; done) | (simp [*]; done)), (by first | rfl | (simp; done) | (simp [*]; done)), H', ⟨Nat.le_refl _⟩, by repeat (first | exact Drawn0.refl _ | apply Drawn0.step)⟩
 case round =>
  clear H'
  obtain ⟨x3_1, x4_1, rfl, rfl, HA, HK1, ⟨m1, rfl⟩⟩ := hrel
  cases gk with
  | zero => exact absurd HA.out (by simp [assessorref26_Line.l0])
  | succ k1 =>
   have H := HA.out
   clear HA
   simp only [assessorref26_Line.l0] at H
   by_cases c2 : x4_1 < (l0.length : Int)
   ·rw [if_pos c2] at H
    have c2b0 : decide (x4_1 < (l0.length : Int)) = true := decide_eq_true c2
    clear c2
    by_cases c3 : 0 ≤ x4_1
    ·rw [if_pos c3] at H
     have c3b0 : decide (0 ≤ x4_1) = true := decide_eq_true c3
     clear c3
     replace H := Option.bind_eq_some_iff.mp H
     obtain ⟨t346, A40, H⟩ := H
     replace H : (if x3_1.size + t346.size ≤ 9223372036854775807 then (if (x3_1 ++ t346).size + 1 ≤ 9223372036854775807 then (assessorref26_Line.l0 k1 l0 ((x3_1 ++ t346) ++ (⟨#[32]⟩ : ByteArray)) (wrap64 (x4_1 + 1))) else (none)) else (none)) = some r := H
     have A4 := Aside0.mk A40
     clear A40
     by_cases c5 : x3_1.size + t346.size ≤ 9223372036854775807
     ·rw [if_pos c5] at H
      have c5b0 := eq_true c5
      have c5b1 : decide (x3_1.size + t346.size ≤ 9223372036854775807) = true := decide_eq_true c5
      try have c5b2 : (9223372036854775807 < x3_1.size + t346.size) = False := eq_false (Nat.not_lt.2 c5)
      by_cases c6 : (x3_1 ++ t346).size + 1 ≤ 9223372036854775807
      ·rw [if_pos c6] at H
       have c6b0 := eq_true c6
       have c6b1 : decide ((x3_1 ++ t346).size + 1 ≤ 9223372036854775807) = true := decide_eq_true c6
       have c6s := c6b1
       try simp only [ByteArray.size_append] at c6s
       try (have c6t := c6; simp at c6t; have c6u := decide_eq_true c6t; have c6v := eq_true c6t)
       try have c6b2 : (9223372036854775807 < (x3_1 ++ t346).size + 1) = False := eq_false (Nat.not_lt.2 c6)
       try (have c6b2s := c6b2; simp only [ByteArray.size_append] at c6b2s)
       have H' := Aside0.mk H
       clear H
       have p345 : 0 ≤ (x4_1 : Int) := of_decide_eq_true (by first | (with_reducible assumption) | assumption)
       have q345 : x4_1 < (l0.length : Int) := of_decide_eq_true (by first | (with_reducible assumption) | assumption)
       obtain ⟨ad345, e345, hx345_0⟩ := Kd.at_int HR0.out x4_1 p345 q345
       cases e345
       replace p345 := eq_true p345
       replace q345 := eq_true q345
       go_wp2_with (first | ((with_reducible refine gate_callee (f := 69) rfl ?_); refine goesL_ (some 16) rfl rfl Tryz.func69 (by kernel_rfl) rfl #[.int .i64 (rd l0 x4_1)] rfl (by (try simp only [List.map_toArray, List.map_cons, List.map_nil]); first | done | rfl | (simp only [List.length_drop, List.length_take]; rfl)) ?_; (with_reducible refine (assessorref26_Decimal.calls k1 (rd l0 x4_1) t346 _ A4.out).mono ?_); rintro e w' ⟨rfl, ⟨nd, rfl⟩⟩; refine ⟨_, rfl, ?_⟩))
       go_roundg k1
       case measure => have := HK1.out; omega
       case rel => exact ⟨((x3_1 ++ t346) ++ (⟨#[32]⟩ : ByteArray)), (wrap64 (x4_1 + 1)), (by first | rfl | (simp; done) | (simp [*]; done)), (by first | rfl | (simp; done) | (simp [*]; done)), H', ⟨by have := HK1.out; omega⟩, by repeat (first | exact Drawn0.refl _ | apply Drawn0.step)⟩
      ·rw [if_neg c6] at H
       exact absurd H (by simp)
     ·rw [if_neg c5] at H
      exact absurd H (by simp)
    ·rw [if_neg c3] at H
     exact absurd H (by simp)
   ·rw [if_neg c2] at H
    have c2b0 : decide (x4_1 < (l0.length : Int)) = false := decide_eq_false c2
    clear c2
    by_cases c7 : x3_1.size + 2 ≤ 9223372036854775807
    ·rw [if_pos c7] at H
     have c7b0 := eq_true c7
     have c7b1 : decide (x3_1.size + 2 ≤ 9223372036854775807) = true := decide_eq_true c7
     try have c7b2 : (9223372036854775807 < x3_1.size + 2) = False := eq_false (Nat.not_lt.2 c7)
     obtain rfl := Option.some.inj H
     go_wp2
     go_ret
     exact ⟨by first | rfl | (simp; done) | (simp [*]; done), by repeat (first | exact Drawn0.refl _ | apply Drawn0.step)⟩
    ·rw [if_neg c7] at H
     exact absurd H (by simp)

/-! ### assessorref26_Format: function 29 -/
def assessorref26_Format.l0 : Nat → ByteArray → Int → Int → List (List Int) → Option (ByteArray)
 | 0, _, _, _, _ => none
 | k + 1, x3, x4, x348000, x348001 => if x4 < (x348001.length : Int) then (if 0 ≤ x4 then ((assessorref26_Line.f k (rd_L1 x348001 x4)).bind fun t352 => (if x3.size + t352.size ≤ 9223372036854775807 then (assessorref26_Format.l0 k (x3 ++ t352) (wrap64 (x4 + 1)) x348000 x348001) else (none))) else (none)) else (some x3)
def assessorref26_Format.f (k : Nat) (a0_0 : Int) (l0_1 : List (List Int)) : Option (ByteArray) := (assessorref26_Valid.f k a0_0 l0_1).bind fun t348 => (if t348 = true then ((assessorref26_Decimal.f k a0_0).bind fun t349 => (if 6 + t349.size ≤ 9223372036854775807 then (if ((⟨#[112, 32, 99, 110, 102, 32]⟩ : ByteArray) ++ t349).size + 1 ≤ 9223372036854775807 then ((assessorref26_Decimal.f k (l0_1.length : Int)).bind fun t350 => (if (((⟨#[112, 32, 99, 110, 102, 32]⟩ : ByteArray) ++ t349) ++ (⟨#[32]⟩ : ByteArray)).size + t350.size ≤ 9223372036854775807 then (if ((((⟨#[112, 32, 99, 110, 102, 32]⟩ : ByteArray) ++ t349) ++ (⟨#[32]⟩ : ByteArray)) ++ t350).size + 1 ≤ 9223372036854775807 then (assessorref26_Format.l0 k (((((⟨#[112, 32, 99, 110, 102, 32]⟩ : ByteArray) ++ t349) ++ (⟨#[32]⟩ : ByteArray)) ++ t350) ++ (⟨#[10]⟩ : ByteArray)) 0 a0_0 l0_1) else (none)) else (none))) else (none)) else (none))) else (some (⟨#[]⟩ : ByteArray)))
theorem assessorref26_Format.mono_l : ∀ k, (∀ y0 y1 y2 y3, LeO (assessorref26_Format.l0 k y0 y1 y2 y3) (assessorref26_Format.l0 (k + 1) y0 y1 y2 y3))
 | 0 => fun _ _ _ _ r h => by simp [assessorref26_Format.l0] at h
 | k + 1 => by
  have ih0 := assessorref26_Format.mono_l k
  ·intro y0 y1 y2 y3
   unfold assessorref26_Format.l0
   repeat' first
   | (with_reducible exact ih0 _ _ _ _)
   | (with_reducible exact assessorref26_Decimal.mono _ _)
   | (with_reducible exact assessorref26_Line.mono _ _)
   | (with_reducible exact assessorref26_Valid.mono _ _ _)
   | (with_reducible exact LeO.refl _)
   | (with_reducible exact LeO.none _)
   | (with_reducible refine LeO.ite ?_ ?_)
   | (with_reducible refine LeO.bind ?_ (fun _ => ?_))
   | exact ih0 _ _ _ _
   | exact assessorref26_Decimal.mono _ _
   | exact assessorref26_Line.mono _ _
   | exact assessorref26_Valid.mono _ _ _
   | exact LeO.none _
   | refine LeO.ite ?_ ?_
   | refine LeO.bind ?_ (fun _ => ?_)
theorem assessorref26_Format.mono : ∀ a0 a1 k, LeO (assessorref26_Format.f k a0 a1) (assessorref26_Format.f (k + 1) a0 a1) := by
 intro a0 a1 k
 have ih0 := assessorref26_Format.mono_l k
 unfold assessorref26_Format.f
 repeat' first
   | (with_reducible exact ih0 _ _ _ _)
   | (with_reducible exact assessorref26_Decimal.mono _ _)
   | (with_reducible exact assessorref26_Line.mono _ _)
   | (with_reducible exact assessorref26_Valid.mono _ _ _)
   | (with_reducible exact LeO.refl _)
   | (with_reducible exact LeO.none _)
   | (with_reducible refine LeO.ite ?_ ?_)
   | (with_reducible refine LeO.bind ?_ (fun _ => ?_))
   | exact ih0 _ _ _ _
   | exact assessorref26_Decimal.mono _ _
   | exact assessorref26_Line.mono _ _
   | exact assessorref26_Valid.mono _ _ _
   | exact LeO.none _
   | refine LeO.ite ?_ ?_
   | refine LeO.bind ?_ (fun _ => ?_)
end Go.Proofs.YteaohgebocbehaaGreatDoor.XA
