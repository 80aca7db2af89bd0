/- Functions of the given Go program as Lean functions, each with a proof that the machine's call answers so; conditions: the premises written in each. -/
import Derived.Test.YteaohgebocbehaaGreatDoorXAx0
import Derived.Test.YteaohgebocbehaaGreatDoorXAx6
import Derived.Test.YteaohgebocbehaaGreatDoorXAx13
namespace Go.Proofs.YteaohgebocbehaaGreatDoor.XA
open Go.RowKit Go.Proofs.YteaohgebocbehaaGreatDoorW.PrintWords Go.Proofs.YteaohgebocbehaaGreatDoorW.PrintLast Go.Proofs.YteaohgebocbehaaGreatDoorW.PrintMore
attribute [local go_sem] max2_int min2_int max_two min_two max_three min_three max_four min_four   -- for this text's walks alone
set_option linter.unusedVariables false
set_option linter.unusedSimpArgs false

/-! ### assessorref26_Parse: function 27 -/
mutual
def assessorref26_Parse.j0 : Nat → ByteArray → Bool → Option (Int × (List (List Int)) × Int)
 | 0, _, _ => none
 | k + 1, x0, x18 => if x18 = true then (some (0, ([] : List (List Int)), 3)) else (if 6 ≤ (x0.size : Int) then ((assessorref26_integer.f k (x0.extract 6 x0.size)).bind fun bt332 => (if 0 ≤ (wrap64 (6 + bt332.2)) then (if (wrap64 (6 + bt332.2)) ≤ (x0.size : Int) then (if bt332.2 = 0 then (assessorref26_Parse.j1 k bt332.1 (x0.extract ((wrap64 (6 + bt332.2)) : Int).toNat x0.size) true) else (if (x0.extract ((wrap64 (6 + bt332.2)) : Int).toNat x0.size).toList = ([] : List UInt8) then (assessorref26_Parse.j1 k bt332.1 (x0.extract ((wrap64 (6 + bt332.2)) : Int).toNat x0.size) true) else (if 0 < ((x0.extract ((wrap64 (6 + bt332.2)) : Int).toNat x0.size).size : Int) then (assessorref26_Parse.j1 k bt332.1 (x0.extract ((wrap64 (6 + bt332.2)) : Int).toNat x0.size) ((bt (x0.extract ((wrap64 (6 + bt332.2)) : Int).toNat x0.size) 0) != 32)) else (none)))) else (none)) else (none))) else (none))
def assessorref26_Parse.j1 : Nat → Int → ByteArray → Bool → Option (Int × (List (List Int)) × Int)
 | 0, _, _, _ => none
 | k + 1, x4, x6, x40 => if x40 = true then (some (0, ([] : List (List Int)), 3)) else (if 1 ≤ (x6.size : Int) then ((assessorref26_integer.f k (x6.extract 1 x6.size)).bind fun bt334 => (if bt334.2 = 0 then (assessorref26_Parse.j2 k x4 bt334.2 x6 bt334.1 true) else (if (x6.size : Int) ≤ (wrap64 (1 + bt334.2)) then (assessorref26_Parse.j2 k x4 bt334.2 x6 bt334.1 true) else (if 0 ≤ (wrap64 (1 + bt334.2)) then (if (wrap64 (1 + bt334.2)) < (x6.size : Int) then (assessorref26_Parse.j2 k x4 bt334.2 x6 bt334.1 ((bt x6 (wrap64 (1 + bt334.2))) != 10)) else (none)) else (none))))) else (none))
def assessorref26_Parse.j2 : Nat → Int → Int → ByteArray → Int → Bool → Option (Int × (List (List Int)) × Int)
 | 0, _, _, _, _, _ => none
 | k + 1, x4, x5, x6, x7, x63 => if x63 = true then (some (0, ([] : List (List Int)), 3)) else (if 0 ≤ (wrap64 (2 + x5)) then (if (wrap64 (2 + x5)) ≤ (x6.size : Int) then (assessorref26_Parse.l0 k (x6.extract ((wrap64 (2 + x5)) : Int).toNat x6.size) x7 x4 ([] : List (List Int))) else (none)) else (none))
def assessorref26_Parse.l0 : Nat → ByteArray → Int → Int → List (List Int) → Option (Int × (List (List Int)) × Int)
 | 0, _, _, _, _ => none
 | k + 1, x6, x7, x337000, x337001 => if x6.toList = ([] : List UInt8) then (if (x337001.length : Int) = x7 then ((assessorref26_Valid.f k x337000 x337001).bind fun t344 => (if t344 = true then (some (x337000, x337001, 0)) else (some (0, ([] : List (List Int)), 3)))) else (some (0, ([] : List (List Int)), 3))) else ((assessorref26_ReadLine.f k x6).bind fun bt337 => (if bt337.2 = 0 then (some (0, ([] : List (List Int)), 3)) else (if x337001.length < 5864062014805 then (if 0 ≤ bt337.2 then (if bt337.2 ≤ (x6.size : Int) then (assessorref26_Parse.l0 k (x6.extract (bt337.2 : Int).toNat x6.size) x7 x337000 (x337001 ++ [bt337.1])) else (none)) else (none)) else (none))))
end
def assessorref26_Parse.f (k : Nat) (a0 : ByteArray) : Option (Int × (List (List Int)) × Int) := if (a0.size : Int) < 6 then (assessorref26_Parse.j0 k a0 true) else (if 0 ≤ 6 then (if 6 ≤ (a0.size : Int) then (assessorref26_Parse.j0 k a0 ((a0.extract 0 6).toList != ([112, 32, 99, 110, 102, 32] : List UInt8))) else (none)) else (none))
theorem assessorref26_Parse.mono_l : ∀ k, (∀ y0 y1, LeO (assessorref26_Parse.j0 k y0 y1) (assessorref26_Parse.j0 (k + 1) y0 y1)) ∧ (∀ y0 y1 y2, LeO (assessorref26_Parse.j1 k y0 y1 y2) (assessorref26_Parse.j1 (k + 1) y0 y1 y2)) ∧ (∀ y0 y1 y2 y3 y4, LeO (assessorref26_Parse.j2 k y0 y1 y2 y3 y4) (assessorref26_Parse.j2 (k + 1) y0 y1 y2 y3 y4)) ∧ (∀ y0 y1 y2 y3, LeO (assessorref26_Parse.l0 k y0 y1 y2 y3) (assessorref26_Parse.l0 (k + 1) y0 y1 y2 y3))
 | 0 => ⟨fun _ _ r h => by simp [assessorref26_Parse.j0] at h, fun _ _ _ r h => by simp [assessorref26_Parse.j1] at h, fun _ _ _ _ _ r h => by simp [assessorref26_Parse.j2] at h, fun _ _ _ _ r h => by simp [assessorref26_Parse.l0] at h⟩
 | k + 1 => by
  obtain ⟨ih0, ih1, ih2, ih3⟩ := assessorref26_Parse.mono_l k
  refine ⟨?_, ?_, ?_, ?_⟩
  ·intro y0 y1
   unfold assessorref26_Parse.j0
   repeat' first
   | (with_reducible exact ih0 _ _)
   | (with_reducible exact ih1 _ _ _)
   | (with_reducible exact ih2 _ _ _ _ _)
   | (with_reducible exact ih3 _ _ _ _)
   | (with_reducible exact assessorref26_ReadLine.mono _ _)
   | (with_reducible exact assessorref26_Valid.mono _ _ _)
   | (with_reducible exact assessorref26_integer.mono _ _)
   | (with_reducible exact LeO.refl _)
   | (with_reducible exact LeO.none _)
   | (with_reducible refine LeO.ite ?_ ?_)
   | (with_reducible refine LeO.bind ?_ (fun _ => ?_))
   | exact ih0 _ _
   | exact ih1 _ _ _
   | exact ih2 _ _ _ _ _
   | exact ih3 _ _ _ _
   | exact assessorref26_ReadLine.mono _ _
   | exact assessorref26_Valid.mono _ _ _
   | exact assessorref26_integer.mono _ _
   | exact LeO.none _
   | refine LeO.ite ?_ ?_
   | refine LeO.bind ?_ (fun _ => ?_)
  ·intro y0 y1 y2
   unfold assessorref26_Parse.j1
   repeat' first
   | (with_reducible exact ih0 _ _)
   | (with_reducible exact ih1 _ _ _)
   | (with_reducible exact ih2 _ _ _ _ _)
   | (with_reducible exact ih3 _ _ _ _)
   | (with_reducible exact assessorref26_ReadLine.mono _ _)
   | (with_reducible exact assessorref26_Valid.mono _ _ _)
   | (with_reducible exact assessorref26_integer.mono _ _)
   | (with_reducible exact LeO.refl _)
   | (with_reducible exact LeO.none _)
   | (with_reducible refine LeO.ite ?_ ?_)
   | (with_reducible refine LeO.bind ?_ (fun _ => ?_))
   | exact ih0 _ _
   | exact ih1 _ _ _
   | exact ih2 _ _ _ _ _
   | exact ih3 _ _ _ _
   | exact assessorref26_ReadLine.mono _ _
   | exact assessorref26_Valid.mono _ _ _
   | exact assessorref26_integer.mono _ _
   | exact LeO.none _
   | refine LeO.ite ?_ ?_
   | refine LeO.bind ?_ (fun _ => ?_)
  ·intro y0 y1 y2 y3 y4
   unfold assessorref26_Parse.j2
   repeat' first
   | (with_reducible exact ih0 _ _)
   | (with_reducible exact ih1 _ _ _)
   | (with_reducible exact ih2 _ _ _ _ _)
   | (with_reducible exact ih3 _ _ _ _)
   | (with_reducible exact assessorref26_ReadLine.mono _ _)
   | (with_reducible exact assessorref26_Valid.mono _ _ _)
   | (with_reducible exact assessorref26_integer.mono _ _)
   | (with_reducible exact LeO.refl _)
   | (with_reducible exact LeO.none _)
   | (with_reducible refine LeO.ite ?_ ?_)
   | (with_reducible refine LeO.bind ?_ (fun _ => ?_))
   | exact ih0 _ _
   | exact ih1 _ _ _
   | exact ih2 _ _ _ _ _
   | exact ih3 _ _ _ _
   | exact assessorref26_ReadLine.mono _ _
   | exact assessorref26_Valid.mono _ _ _
   | exact assessorref26_integer.mono _ _
   | exact LeO.none _
   | refine LeO.ite ?_ ?_
   | refine LeO.bind ?_ (fun _ => ?_)
  ·intro y0 y1 y2 y3
   unfold assessorref26_Parse.l0
   repeat' first
   | (with_reducible exact ih0 _ _)
   | (with_reducible exact ih1 _ _ _)
   | (with_reducible exact ih2 _ _ _ _ _)
   | (with_reducible exact ih3 _ _ _ _)
   | (with_reducible exact assessorref26_ReadLine.mono _ _)
   | (with_reducible exact assessorref26_Valid.mono _ _ _)
   | (with_reducible exact assessorref26_integer.mono _ _)
   | (with_reducible exact LeO.refl _)
   | (with_reducible exact LeO.none _)
   | (with_reducible refine LeO.ite ?_ ?_)
   | (with_reducible refine LeO.bind ?_ (fun _ => ?_))
   | exact ih0 _ _
   | exact ih1 _ _ _
   | exact ih2 _ _ _ _ _
   | exact ih3 _ _ _ _
   | exact assessorref26_ReadLine.mono _ _
   | exact assessorref26_Valid.mono _ _ _
   | exact assessorref26_integer.mono _ _
   | exact LeO.none _
   | refine LeO.ite ?_ ?_
   | refine LeO.bind ?_ (fun _ => ?_)
theorem assessorref26_Parse.mono : ∀ a0 k, LeO (assessorref26_Parse.f k a0) (assessorref26_Parse.f (k + 1) a0) := by
 intro a0 k
 obtain ⟨ih0, ih1, ih2, ih3⟩ := assessorref26_Parse.mono_l k
 unfold assessorref26_Parse.f
 repeat' first
   | (with_reducible exact ih0 _ _)
   | (with_reducible exact ih1 _ _ _)
   | (with_reducible exact ih2 _ _ _ _ _)
   | (with_reducible exact ih3 _ _ _ _)
   | (with_reducible exact assessorref26_ReadLine.mono _ _)
   | (with_reducible exact assessorref26_Valid.mono _ _ _)
   | (with_reducible exact assessorref26_integer.mono _ _)
   | (with_reducible exact LeO.refl _)
   | (with_reducible exact LeO.none _)
   | (with_reducible refine LeO.ite ?_ ?_)
   | (with_reducible refine LeO.bind ?_ (fun _ => ?_))
   | exact ih0 _ _
   | exact ih1 _ _ _
   | exact ih2 _ _ _ _ _
   | exact ih3 _ _ _ _
   | exact assessorref26_ReadLine.mono _ _
   | exact assessorref26_Valid.mono _ _ _
   | exact assessorref26_integer.mono _ _
   | exact LeO.none _
   | refine LeO.ite ?_ ?_
   | refine LeO.bind ?_ (fun _ => ?_)
set_option maxHeartbeats 8000000 in
set_option maxRecDepth 100000 in
theorem assessorref26_Parse.calls (k : Nat) (a0 : ByteArray) (r1 : Int) (r2 : List (List Int)) (r3 : Int) (w : World) (h : assessorref26_Parse.f k a0 = some (r1, r2, r3)) :
  Calls Tryz.prog 27 #[.string a0] w fun e w' => ∃ v1_ : Value, e = .returned (.tuple #[.agg #[.int .i64 r1, v1_], .int .i64 r3]) ∧ Kd.S (Kd.slice 3 (Kd.int .i64)) 25 w' w.heap.size (fun _ => True) v1_ r2 ∧ Below w.heap.size w w' := by
 have hu24 := Tryz.underlying24
 have HB := Aside0.mk (Below.refl w.heap.size w)
 have H : (if (a0.size : Int) < 6 then (assessorref26_Parse.j0 k a0 true) else (if 0 ≤ 6 then (if 6 ≤ (a0.size : Int) then (assessorref26_Parse.j0 k a0 ((a0.extract 0 6).toList != ([112, 32, 99, 110, 102, 32] : List UInt8))) else (none)) else (none))) = some (r1, r2, r3) := h
 clear h
 have HC2 := Aside0.mk H
 clear H
 go_enter Tryz.func27, Tryz.ntmps27
 go_upto_region 1 with (first | ((with_reducible refine gate_dst (N := 2) rfl ?_); (try (refine gate_guard (by rfl) ?_; dsimp only)); refine box_event ?hg (N := 2) ?hd (cs := #[.int .i64 0, .slice none 0 0]) (t := 24) ?hr ?_; (case hd => rfl); (case hg => rfl); (case hr => first | (go_simp; done) | (go_simp; rfl)); intro gb331 hg w3 hbox hb; have n0_ := Aside0.mk (below_step (by repeat (first | (with_reducible first | exact HB.out | apply below_alloc | apply pw_below_drewN | apply below_drew1) | exact HB.out)) hb); have n1_ := Aside0.mk (hbox); have n2_ := Aside0.mk ((by rw [hg]; exact (below_size (by repeat (first | (with_reducible first | exact HB.out | apply below_alloc | apply pw_below_drewN | apply below_drew1) | exact HB.out))) : w.heap.size ≤ gb331)); have n3_ := Aside0.mk ((by rw [hg]; exact (below_size (by repeat (first | (with_reducible first | exact HB.out | apply below_alloc | apply pw_below_drewN | apply below_drew1) | exact HB.out))) : w.heap.size ≤ gb331)); clear HB; have HB := n0_; have BK331 := n1_; have GW331 := n2_; have GE331 := n3_; clear n0_ n1_ n2_ n3_; clear hb hbox hg))
 (try simp only [Act.put, List.setIfInBounds_toArray, List.set_cons_zero, List.set_cons_succ])
 go_cut [18] (fun v18 wc => ∃ (kq : Nat) (x18_1 : Bool), v18 = .bool x18_1 ∧ Aside0 (assessorref26_Parse.j0 kq a0 x18_1 = some (r1, r2, r3)) ∧ Aside0 (kq ≤ k) ∧ Aside0 (wc.heap[gb331]? = some (.cells #[.int .i64 0, (.slice none 0 0)] 24 (0, 0))) ∧ Aside0 (Below w.heap.size w wc))
 case first =>
  have H := HC2.out
  clear HC2
  by_cases c4 : (a0.size : Int) < 6
  ·rw [if_pos c4] at H
   have c4b0 : decide ((a0.size : Int) < 6) = true := decide_eq_true c4
   have c4b1 : decide (a0.size < 6) = true := decide_eq_true (by omega)
   clear c4
   (first | rw [c4b0] | (simp only [i64_w, i32_w]; rw [c4b0]) | skip)
   have H' := Aside0.mk H
   clear H
   go_wp2
   go_meet
   case rel => exact ⟨_, (true), (by first | rfl | (simp; done) | (simp [*]; done)), H', ⟨by first | omega | exact Nat.le_refl _⟩, ⟨by (with_reducible repeat (first | refine blk_drewN ?_ _ | refine blk_drew ?_ | refine blk_alloc ?_ _)); exact BK331.out⟩, ⟨by repeat (first | (with_reducible first | exact HB.out | apply below_alloc | apply pw_below_drewN | apply below_drew1 | refine below_set ?_ GE331.out) | exact HB.out)⟩⟩
  ·rw [if_neg c4] at H
   have c4b0 : decide ((a0.size : Int) < 6) = false := decide_eq_false c4
   have c4b1 : decide (a0.size < 6) = false := decide_eq_false (by omega)
   clear c4
   (first | rw [c4b0] | (simp only [i64_w, i32_w]; rw [c4b0]) | skip)
   by_cases c5 : 0 ≤ 6
   ·rw [if_pos c5] at H
    have c5b0 := eq_true c5
    have c5b1 : decide (0 ≤ 6) = true := decide_eq_true c5
    clear c5
    by_cases c6 : 6 ≤ (a0.size : Int)
    ·rw [if_pos c6] at H
     have c6b0 := eq_true c6
     have c6b1 : decide (6 ≤ (a0.size : Int)) = true := decide_eq_true c6
     clear c6
     have H' := Aside0.mk H
     clear H
     go_wp2
     go_meet
     case rel => exact ⟨_, (((a0.extract 0 6).toList != ([112, 32, 99, 110, 102, 32] : List UInt8))), (by first | rfl | (simp; done) | (simp [*]; done)), H', ⟨by first | omega | exact Nat.le_refl _⟩, ⟨by (with_reducible repeat (first | refine blk_drewN ?_ _ | refine blk_drew ?_ | refine blk_alloc ?_ _)); exact BK331.out⟩, ⟨by repeat (first | (with_reducible first | exact HB.out | apply below_alloc | apply pw_below_drewN | apply below_drew1 | refine below_set ?_ GE331.out) | exact HB.out)⟩⟩
    ·rw [if_neg c6] at H
     exact absurd H (by simp)
   ·rw [if_neg c5] at H
    exact absurd H (by simp)
 case rest =>
  clear HC2
  try clear c2
  try clear p2
  try clear c4
  try clear c4b0
  try clear c4b1
  try clear c5
  try clear c5b0
  try clear c5b1
  try clear c6
  try clear c6b0
  try clear c6b1
  obtain ⟨kq, x18_1, rfl, HA, HJ1, BK331, HB⟩ := hcut
  cases kq with
  | zero => exact absurd HA.out (by simp [assessorref26_Parse.j0])
  | succ kj1 =>
   have H := HA.out
   clear HA
   simp only [assessorref26_Parse.j0] at H
   by_cases c7 : x18_1 = true
   ·subst c7
    have H1 : (some (0, ([] : List (List Int)), 3)) = some (r1, r2, r3) := by rw [if_pos rfl] at H; exact H
    clear H
    have H := H1
    clear H1
    simp only [Option.some.injEq, Prod.mk.injEq] at H
    obtain ⟨rfl, rfl, rfl⟩ := H
    have hcz8_0 : wc.cell? ⟨gb331, 0, none⟩ = some (.int .i64 0) := (blk_cell BK331.out 0).trans rfl
    have hcz8_1 : wc.cell? ⟨gb331, 1, none⟩ = some (.slice none 0 0) := (blk_cell BK331.out 1).trans rfl
    have hfz8_0 := blk_frozen BK331.out 0
    have hfz8_1 := blk_frozen BK331.out 1
    go_wp2
    refine bodyPost_ret (results_ct rfl _ _ gb331 24 #[.int .i64 0, .slice none 0 0] (0, 0) _ rfl (by (with_reducible repeat (first | refine blk_drewN ?_ _ | refine blk_drew ?_ | refine blk_alloc ?_ _)); refine blk_put (cs := #[.int .i64 0, .slice none 0 0]) ?_ 1 _ rfl; (with_reducible repeat (first | refine blk_drewN ?_ _ | refine blk_drew ?_ | refine blk_alloc ?_ _)); refine blk_put (cs := #[.int .i64 0, .slice none 0 0]) ?_ 0 _ rfl; (with_reducible repeat (first | refine blk_drewN ?_ _ | refine blk_drew ?_ | refine blk_alloc ?_ _)); exact BK331.out) Tryz.underlying24 rfl (by kernel_rfl)) rfl ?_
    exact ⟨_, by first | rfl | (simp [errW_none, errW_some] <;> rfl) | (simp [*, errW_none, errW_some] <;> rfl), by first | exact Kd.S_nil _ _ _ _ _ | exact Kd.N_nil _ _ _ _ _ | exact Kd.V_nil _ _ _ _ _ | exact Kd.Q_nil _ _ _ _ _ | exact Kd.R_nil _ _ _ _ _, by repeat (first | (with_reducible first | exact HB.out | apply below_alloc | apply pw_below_drewN | apply below_drew1 | refine below_set ?_ GE331.out) | exact HB.out)⟩
   ·replace c7 := Bool.eq_false_iff.mpr c7
    subst c7
    have H1 : (if 6 ≤ (a0.size : Int) then ((assessorref26_integer.f kj1 (a0.extract 6 a0.size)).bind fun bt332 => (if 0 ≤ (wrap64 (6 + bt332.2)) then (if (wrap64 (6 + bt332.2)) ≤ (a0.size : Int) then (if bt332.2 = 0 then (assessorref26_Parse.j1 kj1 bt332.1 (a0.extract ((wrap64 (6 + bt332.2)) : Int).toNat a0.size) true) else (if (a0.extract ((wrap64 (6 + bt332.2)) : Int).toNat a0.size).toList = ([] : List UInt8) then (assessorref26_Parse.j1 kj1 bt332.1 (a0.extract ((wrap64 (6 + bt332.2)) : Int).toNat a0.size) true) else (if 0 < ((a0.extract ((wrap64 (6 + bt332.2)) : Int).toNat a0.size).size : Int) then (assessorref26_Parse.j1 kj1 bt332.1 (a0.extract ((wrap64 (6 + bt332.2)) : Int).toNat a0.size) ((bt (a0.extract ((wrap64 (6 + bt332.2)) : Int).toNat a0.size) 0) != 32)) else (none)))) else (none)) else (none))) else (none)) = some (r1, r2, r3) := by rw [if_neg (show ¬ (false = true) by decide)] at H; exact H
    clear H
    have H := H1
    clear H1
    by_cases c9 : 6 ≤ (a0.size : Int)
    ·rw [if_pos c9] at H
     have c9b0 := eq_true c9
     have c9b1 : decide (6 ≤ (a0.size : Int)) = true := decide_eq_true c9
     clear c9
     replace H := Option.bind_eq_some_iff.mp H
     obtain ⟨⟨t332, t333⟩, A100, H⟩ := H
     replace H : (if 0 ≤ (wrap64 (6 + t333)) then (if (wrap64 (6 + t333)) ≤ (a0.size : Int) then (if t333 = 0 then (assessorref26_Parse.j1 kj1 t332 (a0.extract ((wrap64 (6 + t333)) : Int).toNat a0.size) true) else (if (a0.extract ((wrap64 (6 + t333)) : Int).toNat a0.size).toList = ([] : List UInt8) then (assessorref26_Parse.j1 kj1 t332 (a0.extract ((wrap64 (6 + t333)) : Int).toNat a0.size) true) else (if 0 < ((a0.extract ((wrap64 (6 + t333)) : Int).toNat a0.size).size : Int) then (assessorref26_Parse.j1 kj1 t332 (a0.extract ((wrap64 (6 + t333)) : Int).toNat a0.size) ((bt (a0.extract ((wrap64 (6 + t333)) : Int).toNat a0.size) 0) != 32)) else (none)))) else (none)) else (none)) = some (r1, r2, r3) := H
     have A10 := Aside0.mk A100
     clear A100
     obtain ⟨ji11, hji11⟩ : ∃ j_ : Int, (wrap64 (6 + t333)) = j_ := ⟨_, rfl⟩
     replace H : (if 0 ≤ (ji11) then (if (ji11) ≤ (a0.size : Int) then (if t333 = 0 then (assessorref26_Parse.j1 kj1 t332 (a0.extract ((ji11) : Int).toNat a0.size) true) else (if (a0.extract ((ji11) : Int).toNat a0.size).toList = ([] : List UInt8) then (assessorref26_Parse.j1 kj1 t332 (a0.extract ((ji11) : Int).toNat a0.size) true) else (if 0 < ((a0.extract ((ji11) : Int).toNat a0.size).size : Int) then (assessorref26_Parse.j1 kj1 t332 (a0.extract ((ji11) : Int).toNat a0.size) ((bt (a0.extract ((ji11) : Int).toNat a0.size) 0) != 32)) else (none)))) else (none)) else (none)) = some (r1, r2, r3) := by first | (rw [hji11] at H; exact H) | (simp only [hji11] at H ⊢; exact H)
     (try rw [hji11] at A10)
     have hji11w : (IntKind.i64.wrap (6 + t333)) = ji11 := (i64_w _).trans hji11
     by_cases c12 : 0 ≤ (ji11)
     ·rw [if_pos c12] at H
      have c12b0 := eq_true c12
      have c12b1 : decide (0 ≤ (ji11)) = true := decide_eq_true c12
      clear c12
      by_cases c13 : (ji11) ≤ (a0.size : Int)
      ·rw [if_pos c13] at H
       have c13b0 := eq_true c13
       have c13b1 : decide ((ji11) ≤ (a0.size : Int)) = true := decide_eq_true c13
       clear c13
       have HC14 := Aside0.mk H
       clear H
       go_upto_region 5 with (first | ((with_reducible refine gate_callee (f := 64) rfl ?_); refine goesL_ (some 23) rfl rfl Tryz.func64 (by kernel_rfl) rfl #[.string (a0.extract 6 a0.size)] rfl (by (try simp only [List.map_toArray, List.map_cons, List.map_nil]); first | done | rfl | (simp only [List.length_drop, List.length_take]; rfl)) ?_; (with_reducible refine (assessorref26_integer.calls kj1 (a0.extract 6 a0.size) t332 t333 _ A10.out).mono ?_); rintro e w' ⟨rfl, ⟨nd, rfl⟩⟩; refine ⟨_, rfl, ?_⟩))
       (try simp only [Act.put, List.setIfInBounds_toArray, List.set_cons_zero, List.set_cons_succ])
       obtain ⟨xe, hxe⟩ : ∃ x_ : ByteArray, (a0.extract ((ji11) : Int).toNat a0.size) = x_ := ⟨_, rfl⟩
       rw [hxe] at HC14 ⊢
       go_cut [40] (fun v40 wc => ∃ (kq : Nat) (x40_13 : Bool), v40 = .bool x40_13 ∧ Aside0 (assessorref26_Parse.j1 kq t332 xe x40_13 = some (r1, r2, r3)) ∧ Aside0 (kq ≤ kj1) ∧ Aside0 (wc.heap[gb331]? = some (.cells #[.int .i64 0, (.slice none 0 0)] 24 (0, 0))) ∧ Aside0 (Below w.heap.size w wc))
       case first =>
        have H := HC14.out
        clear HC14
        by_cases c15 : t333 = 0
        ·rw [if_pos c15] at H
         have c15b0 : (t333 == 0) = true := beq_iff_eq.mpr c15
         have c15b1 : (t333 != 0) = false := bne_eq_false_iff_eq.mpr c15
         clear c15
         (first | rw [c15b0] | (simp only [i64_w, i32_w]; rw [c15b0]) | skip)
         have H' := Aside0.mk H
         clear H
         go_wp2
         go_meet
         case rel => exact ⟨_, (true), (by first | rfl | (simp; done) | (simp [*]; done)), H', ⟨by have := HJ1.out; first | omega | exact Nat.le_refl _⟩, ⟨by (with_reducible repeat (first | refine blk_drewN ?_ _ | refine blk_drew ?_ | refine blk_alloc ?_ _)); exact BK331.out⟩, ⟨by repeat (first | (with_reducible first | exact HB.out | apply below_alloc | apply pw_below_drewN | apply below_drew1 | refine below_set ?_ GE331.out) | exact HB.out)⟩⟩
        ·rw [if_neg c15] at H
         have c15b0 : (t333 == 0) = false := beq_eq_false_iff_ne.mpr c15
         have c15b1 : (t333 != 0) = true := bne_iff_ne.mpr c15
         (first | rw [c15b0] | (simp only [i64_w, i32_w]; rw [c15b0]) | skip)
         by_cases c16 : xe.toList = ([] : List UInt8)
         ·rw [if_pos c16] at H
          have c16b0 : (xe.toList == ([] : List UInt8)) = true := beq_iff_eq.mpr c16
          have c16b1 : (xe.toList != ([] : List UInt8)) = false := bne_eq_false_iff_eq.mpr c16
          clear c16
          have H' := Aside0.mk H
          clear H
          go_wp2
          go_meet
          case rel => exact ⟨_, (true), (by first | rfl | (simp; done) | (simp [*]; done)), H', ⟨by have := HJ1.out; first | omega | exact Nat.le_refl _⟩, ⟨by (with_reducible repeat (first | refine blk_drewN ?_ _ | refine blk_drew ?_ | refine blk_alloc ?_ _)); exact BK331.out⟩, ⟨by repeat (first | (with_reducible first | exact HB.out | apply below_alloc | apply pw_below_drewN | apply below_drew1 | refine below_set ?_ GE331.out) | exact HB.out)⟩⟩
         ·rw [if_neg c16] at H
          have c16b0 : (xe.toList == ([] : List UInt8)) = false := beq_eq_false_iff_ne.mpr c16
          have c16b1 : (xe.toList != ([] : List UInt8)) = true := bne_iff_ne.mpr c16
          by_cases c17 : 0 < (xe.size : Int)
          ·rw [if_pos c17] at H
           have c17b0 : decide (0 < (xe.size : Int)) = true := decide_eq_true c17
           have c17b1 : decide (0 < xe.size) = true := decide_eq_true (by omega)
           clear c17
           have H' := Aside0.mk H
           clear H
           have p18 : 0 ≤ (0 : Int) := (by omega)
           have q18 : 0 < xe.size := (by have : (0 : Int) < (xe.size : Int) := of_decide_eq_true (by first | (with_reducible assumption) | assumption); omega)
           have hx18 : ∀ h : 0 < xe.size, ((xe[0]'h).toNat : Int) = bt xe 0 := bt_at xe 0
           clear p18
           have qi18 : (0 < (xe.size : Int)) = True := eq_true (of_decide_eq_true (by first | (with_reducible assumption) | assumption))
           replace q18 := eq_true q18
           go_wp2
           go_meet
           case rel => exact ⟨_, (((bt xe 0) != 32)), (by first | rfl | (simp; done) | (simp only [← hji11] <;> (first | rfl | simp)) | (simp [*]; done)), H', ⟨by have := HJ1.out; first | omega | exact Nat.le_refl _⟩, ⟨by (with_reducible repeat (first | refine blk_drewN ?_ _ | refine blk_drew ?_ | refine blk_alloc ?_ _)); exact BK331.out⟩, ⟨by repeat (first | (with_reducible first | exact HB.out | apply below_alloc | apply pw_below_drewN | apply below_drew1 | refine below_set ?_ GE331.out) | exact HB.out)⟩⟩
          ·rw [if_neg c17] at H
           exact absurd H (by simp)
       case rest =>
        clear HC14
        try clear c1
        try clear p1
        try clear q1
        try clear hx1
        try clear qi1
        try clear c2
        try clear p2
        try clear c4
        try clear c4b0
        try clear c4b1
        try clear c5
        try clear c5b0
        try clear c5b1
        try clear c6
        try clear c6b0
        try clear c6b1
        try clear p6
        try clear c7
        try clear c9
        try clear c9b0
        try clear c9b1
        try clear c12
        try clear c12b0
        try clear c12b1
        try clear c13
        try clear c13b0
        try clear c13b1
        try clear c15
        try clear c15b0
        try clear c15b1
        try clear c16
        try clear c16b0
        try clear c16b1
        try clear c17
        try clear c17b0
        try clear c17b1
        try clear p18
        try clear q18
        try clear hx18
        try clear qi18
        try clear hcz8_0
        try clear hcz8_1
        try clear hfz8_0
        try clear hfz8_1
        try clear p18
        try clear p2
        try clear q18
        obtain ⟨kq, x40_13, rfl, HA, HJ13, BK331, HB⟩ := hcut
        cases kq with
        | zero => exact absurd HA.out (by simp [assessorref26_Parse.j1])
        | succ kj13 =>
         have H := HA.out
         clear HA
         simp only [assessorref26_Parse.j1] at H
         by_cases c19 : x40_13 = true
         ·subst c19
          have H1 : (some (0, ([] : List (List Int)), 3)) = some (r1, r2, r3) := by rw [if_pos rfl] at H; exact H
          clear H
          have H := H1
          clear H1
          simp only [Option.some.injEq, Prod.mk.injEq] at H
          obtain ⟨rfl, rfl, rfl⟩ := H
          have hcz20_0 : wc.cell? ⟨gb331, 0, none⟩ = some (.int .i64 0) := (blk_cell BK331.out 0).trans rfl
          have hcz20_1 : wc.cell? ⟨gb331, 1, none⟩ = some (.slice none 0 0) := (blk_cell BK331.out 1).trans rfl
          have hfz20_0 := blk_frozen BK331.out 0
          have hfz20_1 := blk_frozen BK331.out 1
          go_wp2
          refine bodyPost_ret (results_ct rfl _ _ gb331 24 #[.int .i64 0, .slice none 0 0] (0, 0) _ rfl (by (with_reducible repeat (first | refine blk_drewN ?_ _ | refine blk_drew ?_ | refine blk_alloc ?_ _)); refine blk_put (cs := #[.int .i64 0, .slice none 0 0]) ?_ 1 _ rfl; (with_reducible repeat (first | refine blk_drewN ?_ _ | refine blk_drew ?_ | refine blk_alloc ?_ _)); refine blk_put (cs := #[.int .i64 0, .slice none 0 0]) ?_ 0 _ rfl; (with_reducible repeat (first | refine blk_drewN ?_ _ | refine blk_drew ?_ | refine blk_alloc ?_ _)); exact BK331.out) Tryz.underlying24 rfl (by kernel_rfl)) rfl ?_
          exact ⟨_, by first | rfl | (simp [errW_none, errW_some] <;> rfl) | (simp only [← hji11]; first | rfl | (simp [errW_none, errW_some] <;> rfl)) | (simp [*, errW_none, errW_some] <;> rfl), by first | exact Kd.S_nil _ _ _ _ _ | exact Kd.N_nil _ _ _ _ _ | exact Kd.V_nil _ _ _ _ _ | exact Kd.Q_nil _ _ _ _ _ | exact Kd.R_nil _ _ _ _ _, by repeat (first | (with_reducible first | exact HB.out | apply below_alloc | apply pw_below_drewN | apply below_drew1 | refine below_set ?_ GE331.out) | exact HB.out)⟩
         ·replace c19 := Bool.eq_false_iff.mpr c19
          subst c19
          have H1 : (if 1 ≤ (xe.size : Int) then ((assessorref26_integer.f kj13 (xe.extract 1 xe.size)).bind fun bt334 => (if bt334.2 = 0 then (assessorref26_Parse.j2 kj13 t332 bt334.2 xe bt334.1 true) else (if (xe.size : Int) ≤ (wrap64 (1 + bt334.2)) then (assessorref26_Parse.j2 kj13 t332 bt334.2 xe bt334.1 true) else (if 0 ≤ (wrap64 (1 + bt334.2)) then (if (wrap64 (1 + bt334.2)) < (xe.size : Int) then (assessorref26_Parse.j2 kj13 t332 bt334.2 xe bt334.1 ((bt xe (wrap64 (1 + bt334.2))) != 10)) else (none)) else (none))))) else (none)) = some (r1, r2, r3) := by rw [if_neg (show ¬ (false = true) by decide)] at H; exact H
          clear H
          have H := H1
          clear H1
          by_cases c21 : 1 ≤ (xe.size : Int)
          ·rw [if_pos c21] at H
           have c21b0 := eq_true c21
           have c21b1 : decide (1 ≤ (xe.size : Int)) = true := decide_eq_true c21
           clear c21
           replace H := Option.bind_eq_some_iff.mp H
           obtain ⟨⟨t334, t335⟩, A220, H⟩ := H
           replace H : (if t335 = 0 then (assessorref26_Parse.j2 kj13 t332 t335 xe t334 true) else (if (xe.size : Int) ≤ (wrap64 (1 + t335)) then (assessorref26_Parse.j2 kj13 t332 t335 xe t334 true) else (if 0 ≤ (wrap64 (1 + t335)) then (if (wrap64 (1 + t335)) < (xe.size : Int) then (assessorref26_Parse.j2 kj13 t332 t335 xe t334 ((bt xe (wrap64 (1 + t335))) != 10)) else (none)) else (none)))) = some (r1, r2, r3) := H
           have A22 := Aside0.mk A220
           clear A220
           have HC23 := Aside0.mk H
           clear H
           go_upto_region 8 with (first | ((with_reducible refine gate_callee (f := 64) rfl ?_); refine goesL_ (some 45) rfl rfl Tryz.func64 (by kernel_rfl) rfl #[.string (xe.extract 1 xe.size)] rfl (by (try simp only [List.map_toArray, List.map_cons, List.map_nil]); first | done | (simp only [hji11]; rfl) | rfl | (simp only [List.length_drop, List.length_take]; rfl)) ?_; (with_reducible refine (assessorref26_integer.calls kj13 (xe.extract 1 xe.size) t334 t335 _ A22.out).mono ?_); rintro e w' ⟨rfl, ⟨nd, rfl⟩⟩; refine ⟨_, rfl, ?_⟩))
           (try simp only [Act.put, List.setIfInBounds_toArray, List.set_cons_zero, List.set_cons_succ])
           go_cut [63] (fun v63 wc => ∃ (kq : Nat) (x63_22 : Bool), v63 = .bool x63_22 ∧ Aside0 (assessorref26_Parse.j2 kq t332 t335 xe t334 x63_22 = some (r1, r2, r3)) ∧ Aside0 (kq ≤ kj13) ∧ Aside0 (wc.heap[gb331]? = some (.cells #[.int .i64 0, (.slice none 0 0)] 24 (0, 0))) ∧ Aside0 (Below w.heap.size w wc))
           case first =>
            have H := HC23.out
            clear HC23
            by_cases c24 : t335 = 0
            ·rw [if_pos c24] at H
             have c24b0 : (t335 == 0) = true := beq_iff_eq.mpr c24
             have c24b1 : (t335 != 0) = false := bne_eq_false_iff_eq.mpr c24
             clear c24
             (first | rw [c24b0] | (simp only [i64_w, i32_w]; rw [c24b0]) | skip)
             have H' := Aside0.mk H
             clear H
             go_wp2
             go_meet
             case rel => exact ⟨_, (true), (by first | rfl | (simp; done) | (simp [*]; done)), H', ⟨by have := HJ1.out; have := HJ13.out; first | omega | exact Nat.le_refl _⟩, ⟨by (with_reducible repeat (first | refine blk_drewN ?_ _ | refine blk_drew ?_ | refine blk_alloc ?_ _)); exact BK331.out⟩, ⟨by repeat (first | (with_reducible first | exact HB.out | apply below_alloc | apply pw_below_drewN | apply below_drew1 | refine below_set ?_ GE331.out) | exact HB.out)⟩⟩
            ·rw [if_neg c24] at H
             have c24b0 : (t335 == 0) = false := beq_eq_false_iff_ne.mpr c24
             have c24b1 : (t335 != 0) = true := bne_iff_ne.mpr c24
             (first | rw [c24b0] | (simp only [i64_w, i32_w]; rw [c24b0]) | skip)
             by_cases c25 : (xe.size : Int) ≤ (wrap64 (1 + t335))
             ·rw [if_pos c25] at H
              have c25b0 : decide ((xe.size : Int) ≤ (wrap64 (1 + t335))) = true := decide_eq_true c25
              clear c25
              have H' := Aside0.mk H
              clear H
              go_wp2
              go_meet
              case rel => exact ⟨_, (true), (by first | rfl | (simp; done) | (simp [*]; done)), H', ⟨by have := HJ1.out; have := HJ13.out; first | omega | exact Nat.le_refl _⟩, ⟨by (with_reducible repeat (first | refine blk_drewN ?_ _ | refine blk_drew ?_ | refine blk_alloc ?_ _)); exact BK331.out⟩, ⟨by repeat (first | (with_reducible first | exact HB.out | apply below_alloc | apply pw_below_drewN | apply below_drew1 | refine below_set ?_ GE331.out) | exact HB.out)⟩⟩
             ·rw [if_neg c25] at H
              have c25b0 : decide ((xe.size : Int) ≤ (wrap64 (1 + t335))) = false := decide_eq_false c25
              clear c25
              obtain ⟨ji26, hji26⟩ : ∃ j_ : Int, (wrap64 (1 + t335)) = j_ := ⟨_, rfl⟩
              replace H : (if 0 ≤ (ji26) then (if (ji26) < (xe.size : Int) then (assessorref26_Parse.j2 kj13 t332 t335 xe t334 ((bt xe (ji26)) != 10)) else (none)) else (none)) = some (r1, r2, r3) := by first | (rw [hji26] at H; exact H) | (simp only [hji26] at H ⊢; exact H)
              (try rw [hji26] at c25b0)
              have hji26w : (IntKind.i64.wrap (1 + t335)) = ji26 := (i64_w _).trans hji26
              by_cases c27 : 0 ≤ (ji26)
              ·rw [if_pos c27] at H
               have c27b0 : decide (0 ≤ (ji26)) = true := decide_eq_true c27
               clear c27
               by_cases c28 : (ji26) < (xe.size : Int)
               ·rw [if_pos c28] at H
                have c28b0 : decide ((ji26) < (xe.size : Int)) = true := decide_eq_true c28
                clear c28
                have H' := Aside0.mk H
                clear H
                have p29 : 0 ≤ ((ji26) : Int) := of_decide_eq_true (by first | (with_reducible assumption) | assumption)
                have q29 : (ji26) < (xe.size : Int) := of_decide_eq_true (by first | (with_reducible assumption) | assumption)
                have hx29 := bt_at xe (ji26)
                replace p29 := eq_true p29
                replace q29 := eq_true q29
                go_wp2
                go_meet
                case rel => exact ⟨_, (((bt xe (ji26)) != 10)), (by first | rfl | (simp; done) | (simp only [← hji11, ← hji26] <;> (first | rfl | simp)) | (simp [*]; done)), H', ⟨by have := HJ1.out; have := HJ13.out; first | omega | exact Nat.le_refl _⟩, ⟨by (with_reducible repeat (first | refine blk_drewN ?_ _ | refine blk_drew ?_ | refine blk_alloc ?_ _)); exact BK331.out⟩, ⟨by repeat (first | (with_reducible first | exact HB.out | apply below_alloc | apply pw_below_drewN | apply below_drew1 | refine below_set ?_ GE331.out) | exact HB.out)⟩⟩
               ·rw [if_neg c28] at H
                exact absurd H (by simp)
              ·rw [if_neg c27] at H
               exact absurd H (by simp)
           case rest =>
            clear HC23
            try clear c1
            try clear p1
            try clear q1
            try clear hx1
            try clear qi1
            try clear c2
            try clear p2
            try clear q2
            try clear hx2
            try clear c4
            try clear c4b0
            try clear c4b1
            try clear c5
            try clear c5b0
            try clear c5b1
            try clear c6
            try clear c6b0
            try clear c6b1
            try clear p6
            try clear c7
            try clear c9
            try clear c9b0
            try clear c9b1
            try clear c12
            try clear c12b0
            try clear c12b1
            try clear c13
            try clear c13b0
            try clear c13b1
            try clear c15
            try clear c15b0
            try clear c15b1
            try clear c16
            try clear c16b0
            try clear c16b1
            try clear c17
            try clear c17b0
            try clear c17b1
            try clear p18
            try clear q18
            try clear hx18
            try clear qi18
            try clear c19
            try clear c21
            try clear c21b0
            try clear c21b1
            try clear c24
            try clear c24b0
            try clear c24b1
            try clear c25
            try clear c25b0
            try clear c27
            try clear c27b0
            try clear c28
            try clear c28b0
            try clear p29
            try clear q29
            try clear hx29
            try clear hcz20_0
            try clear hcz20_1
            try clear hcz8_0
            try clear hcz8_1
            try clear hfz20_0
            try clear hfz20_1
            try clear hfz8_0
            try clear hfz8_1
            try clear p1
            try clear p18
            try clear p2
            try clear p29
            try clear p6
            try clear q1
            try clear q18
            try clear q29
            obtain ⟨kq, x63_22, rfl, HA, HJ22, BK331, HB⟩ := hcut
            cases kq with
            | zero => exact absurd HA.out (by simp [assessorref26_Parse.j2])
            | succ kj22 =>
             have H := HA.out
             clear HA
             simp only [assessorref26_Parse.j2] at H
             by_cases c30 : x63_22 = true
             ·subst c30
              have H1 : (some (0, ([] : List (List Int)), 3)) = some (r1, r2, r3) := by rw [if_pos rfl] at H; exact H
              clear H
              have H := H1
              clear H1
              simp only [Option.some.injEq, Prod.mk.injEq] at H
              obtain ⟨rfl, rfl, rfl⟩ := H
              have hcz31_0 : wc.cell? ⟨gb331, 0, none⟩ = some (.int .i64 0) := (blk_cell BK331.out 0).trans rfl
              have hcz31_1 : wc.cell? ⟨gb331, 1, none⟩ = some (.slice none 0 0) := (blk_cell BK331.out 1).trans rfl
              have hfz31_0 := blk_frozen BK331.out 0
              have hfz31_1 := blk_frozen BK331.out 1
              go_wp2
              refine bodyPost_ret (results_ct rfl _ _ gb331 24 #[.int .i64 0, .slice none 0 0] (0, 0) _ rfl (by (with_reducible repeat (first | refine blk_drewN ?_ _ | refine blk_drew ?_ | refine blk_alloc ?_ _)); refine blk_put (cs := #[.int .i64 0, .slice none 0 0]) ?_ 1 _ rfl; (with_reducible repeat (first | refine blk_drewN ?_ _ | refine blk_drew ?_ | refine blk_alloc ?_ _)); refine blk_put (cs := #[.int .i64 0, .slice none 0 0]) ?_ 0 _ rfl; (with_reducible repeat (first | refine blk_drewN ?_ _ | refine blk_drew ?_ | refine blk_alloc ?_ _)); exact BK331.out) Tryz.underlying24 rfl (by kernel_rfl)) rfl ?_
              exact ⟨_, by first | rfl | (simp [errW_none, errW_some] <;> rfl) | (simp only [← hji11]; first | rfl | (simp [errW_none, errW_some] <;> rfl)) | (simp [*, errW_none, errW_some] <;> rfl), by first | exact Kd.S_nil _ _ _ _ _ | exact Kd.N_nil _ _ _ _ _ | exact Kd.V_nil _ _ _ _ _ | exact Kd.Q_nil _ _ _ _ _ | exact Kd.R_nil _ _ _ _ _, by repeat (first | (with_reducible first | exact HB.out | apply below_alloc | apply pw_below_drewN | apply below_drew1 | refine below_set ?_ GE331.out) | exact HB.out)⟩
             ·replace c30 := Bool.eq_false_iff.mpr c30
              subst c30
              have H1 : (if 0 ≤ (wrap64 (2 + t335)) then (if (wrap64 (2 + t335)) ≤ (xe.size : Int) then (assessorref26_Parse.l0 kj22 (xe.extract ((wrap64 (2 + t335)) : Int).toNat xe.size) t334 t332 ([] : List (List Int))) else (none)) else (none)) = some (r1, r2, r3) := by rw [if_neg (show ¬ (false = true) by decide)] at H; exact H
              clear H
              have H := H1
              clear H1
              obtain ⟨ji32, hji32⟩ : ∃ j_ : Int, (wrap64 (2 + t335)) = j_ := ⟨_, rfl⟩
              replace H : (if 0 ≤ (ji32) then (if (ji32) ≤ (xe.size : Int) then (assessorref26_Parse.l0 kj22 (xe.extract ((ji32) : Int).toNat xe.size) t334 t332 ([] : List (List Int))) else (none)) else (none)) = some (r1, r2, r3) := by first | (rw [hji32] at H; exact H) | (simp only [hji32] at H ⊢; exact H)
              have hji32w : (IntKind.i64.wrap (2 + t335)) = ji32 := (i64_w _).trans hji32
              by_cases c33 : 0 ≤ (ji32)
              ·rw [if_pos c33] at H
               have c33b0 := eq_true c33
               have c33b1 : decide (0 ≤ (ji32)) = true := decide_eq_true c33
               clear c33
               by_cases c34 : (ji32) ≤ (xe.size : Int)
               ·rw [if_pos c34] at H
                have c34b0 := eq_true c34
                have c34b1 : decide ((ji32) ≤ (xe.size : Int)) = true := decide_eq_true c34
                clear c34
                have H' := Aside0.mk H
                clear H
                go_wp2_with (first | ((with_reducible refine gate_dst (N := 8) rfl ?_); (try (refine gate_guard (by rfl) ?_; dsimp only)); refine box_event ?hg (N := 8) ?hd (cs := #[.int .i64 0, .slice none 0 0]) (t := 24) ?hr ?_; (case hd => rfl); (case hg => rfl); (case hr => first | (go_simp; done) | (go_simp; rfl)); intro gb336 hg w35 hbox hb; have n0_ := Aside0.mk (blk_below (g := gb331) (o := .cells #[.int .i64 0, .slice none 0 0] 24 (0, 0)) (by (with_reducible repeat (first | refine blk_drewN ?_ _ | refine blk_drew ?_ | refine blk_alloc ?_ _)); exact BK331.out) hb); have n1_ := Aside0.mk (below_step (by repeat (first | (with_reducible first | exact HB.out | apply below_alloc | apply pw_below_drewN | apply below_drew1 | refine below_set ?_ GE331.out) | exact HB.out)) hb); have n2_ := Aside0.mk (hbox); have n3_ := Aside0.mk ((by rw [hg]; exact (below_size (by repeat (first | (with_reducible first | exact HB.out | apply below_alloc | apply pw_below_drewN | apply below_drew1 | refine below_set ?_ GE331.out) | exact HB.out))) : w.heap.size ≤ gb336)); have n4_ := Aside0.mk ((by rw [hg]; exact (below_size (by repeat (first | (with_reducible first | exact HB.out | apply below_alloc | apply pw_below_drewN | apply below_drew1 | refine below_set ?_ GE331.out) | exact HB.out))) : w.heap.size ≤ gb336)); have n5_ := Aside0.mk ((by rw [hg]; exact Nat.ne_of_lt (blk_lt (g := gb331) (o := .cells #[.int .i64 0, .slice none 0 0] 24 (0, 0)) (by (with_reducible repeat (first | refine blk_drewN ?_ _ | refine blk_drew ?_ | refine blk_alloc ?_ _)); exact BK331.out)) : gb331 ≠ gb336)); have n6_ := Aside0.mk ((by rw [hg]; exact Nat.ne_of_gt (blk_lt (g := gb331) (o := .cells #[.int .i64 0, .slice none 0 0] 24 (0, 0)) (by (with_reducible repeat (first | refine blk_drewN ?_ _ | refine blk_drew ?_ | refine blk_alloc ?_ _)); exact BK331.out)) : gb336 ≠ gb331)); clear BK331; clear HB; have BK331 := n0_; have HB := n1_; have BK336 := n2_; have GW336 := n3_; have GE336 := n4_; have NB331_336 := n5_; have NB336_331 := n6_; clear n0_ n1_ n2_ n3_ n4_ n5_ n6_; clear hb hbox hg; have hnb36 := NB336_331.out; have hnc36 := NB331_336.out; have hcz37_0 : w35.cell? ⟨gb336, 0, none⟩ = some (.int .i64 0) := (blk_cell BK336.out 0).trans rfl; have hcz37_1 : w35.cell? ⟨gb336, 1, none⟩ = some (.slice none 0 0) := (blk_cell BK336.out 1).trans rfl; have hfz37_0 := blk_frozen BK336.out 0; have hfz37_1 := blk_frozen BK336.out 1))
                go_loopg [6] kj22 (fun kq v6 w' => ∃ (x6_4 : ByteArray) (x332000_4 : Int) (x337001_4 : List (List Int)) (u337001 : Value), v6 = .string x6_4 ∧ Aside0 (assessorref26_Parse.l0 kq x6_4 t334 t332 x337001_4 = some (r1, r2, r3)) ∧ Aside0 (kq ≤ kj22) ∧ Aside0 (Kd.S (Kd.slice 3 (Kd.int .i64)) 25 w' w.heap.size (fun _ => True) u337001 x337001_4) ∧ Aside0 (w'.heap[gb331]? = some (.cells #[.int .i64 x332000_4, (.slice none 0 0)] 24 (0, 0))) ∧ Aside0 (w'.heap[gb336]? = some (.cells #[.int .i64 t332, u337001] 24 (0, 0))) ∧ Aside0 (Below w.heap.size w w'))
                case atStart => exact ⟨(xe.extract ((ji32) : Int).toNat xe.size), (0), (([] : List (List Int))), (.slice none 0 0), (by first | rfl | (simp; done) | (simp only [← hji11, ← hji32] <;> (first | rfl | simp)) | (simp [*]; done)), H', ⟨Nat.le_refl _⟩, ⟨by first | exact Kd.S_nil _ _ _ _ _ | exact Kd.N_nil _ _ _ _ _ | exact Kd.V_nil _ _ _ _ _ | exact Kd.Q_nil _ _ _ _ _ | exact Kd.R_nil _ _ _ _ _⟩, ⟨by (with_reducible repeat (first | refine blk_drewN ?_ _ | refine blk_drew ?_ | refine blk_alloc ?_ _)); refine blk_far ?_ NB331_336.out _; (with_reducible repeat (first | refine blk_drewN ?_ _ | refine blk_drew ?_ | refine blk_alloc ?_ _)); refine blk_far ?_ NB331_336.out _; (with_reducible repeat (first | refine blk_drewN ?_ _ | refine blk_drew ?_ | refine blk_alloc ?_ _)); exact BK331.out⟩, ⟨by (with_reducible repeat (first | refine blk_drewN ?_ _ | refine blk_drew ?_ | refine blk_alloc ?_ _)); refine blk_put (cs := #[.int .i64 t332, .slice none 0 0]) ?_ 1 _ rfl; (with_reducible repeat (first | refine blk_drewN ?_ _ | refine blk_drew ?_ | refine blk_alloc ?_ _)); refine blk_put (cs := #[.int .i64 0, .slice none 0 0]) ?_ 0 _ rfl; (with_reducible repeat (first | refine blk_drewN ?_ _ | refine blk_drew ?_ | refine blk_alloc ?_ _)); exact BK336.out⟩, ⟨by repeat (first | (with_reducible first | exact HB.out | apply below_alloc | apply pw_below_drewN | apply below_drew1 | refine below_set ?_ GE331.out | refine below_set ?_ GE336.out) | exact HB.out)⟩⟩
                case round =>
                 clear H'
                 try clear c1
                 try clear p1
                 try clear q1
                 try clear hx1
                 try clear qi1
                 try clear c2
                 try clear p2
                 try clear q2
                 try clear hx2
                 try clear c3
                 try clear c4
                 try clear c4b0
                 try clear c4b1
                 try clear c5
                 try clear c5b0
                 try clear c5b1
                 try clear c6
                 try clear c6b0
                 try clear c6b1
                 try clear p6
                 try clear c7
                 try clear c9
                 try clear c9b0
                 try clear c9b1
                 try clear c12
                 try clear c12b0
                 try clear c12b1
                 try clear c13
                 try clear c13b0
                 try clear c13b1
                 try clear c15
                 try clear c15b0
                 try clear c15b1
                 try clear c16
                 try clear c16b0
                 try clear c16b1
                 try clear c17
                 try clear c17b0
                 try clear c17b1
                 try clear p18
                 try clear q18
                 try clear hx18
                 try clear qi18
                 try clear c19
                 try clear c21
                 try clear c21b0
                 try clear c21b1
                 try clear c24
                 try clear c24b0
                 try clear c24b1
                 try clear c25
                 try clear c25b0
                 try clear c27
                 try clear c27b0
                 try clear c28
                 try clear c28b0
                 try clear p29
                 try clear q29
                 try clear hx29
                 try clear c30
                 try clear c33
                 try clear c33b0
                 try clear c33b1
                 try clear c34
                 try clear c34b0
                 try clear c34b1
                 try clear c36
                 try clear hcz20_0
                 try clear hcz20_1
                 try clear hcz31_0
                 try clear hcz31_1
                 try clear hcz37_0
                 try clear hcz37_1
                 try clear hcz8_0
                 try clear hcz8_1
                 try clear hfz20_0
                 try clear hfz20_1
                 try clear hfz31_0
                 try clear hfz31_1
                 try clear hfz37_0
                 try clear hfz37_1
                 try clear hfz8_0
                 try clear hfz8_1
                 try clear p1
                 try clear p18
                 try clear p2
                 try clear p29
                 try clear p6
                 try clear q1
                 try clear q18
                 try clear q2
                 try clear q29
                 obtain ⟨x6_4, x332000_4, x337001_4, u337001, rfl, HA, HK4, HO_337001, BK331, BK336, HB⟩ := hrel
                 cases gk with
                 | zero => exact absurd HA.out (by simp [assessorref26_Parse.l0])
                 | succ k4 =>
                  have H := HA.out
                  clear HA
                  simp only [assessorref26_Parse.l0] at H
                  by_cases c38 : x6_4.toList = ([] : List UInt8)
                  ·rw [if_pos c38] at H
                   have c38b0 : (x6_4.toList == ([] : List UInt8)) = true := beq_iff_eq.mpr c38
                   have c38b1 : (x6_4.toList != ([] : List UInt8)) = false := bne_eq_false_iff_eq.mpr c38
                   clear c38
                   by_cases c39 : (x337001_4.length : Int) = t334
                   ·rw [if_pos c39] at H
                    have c39b0 : ((x337001_4.length : Int) == t334) = true := beq_iff_eq.mpr c39
                    have c39b1 : ((x337001_4.length : Int) != t334) = false := bne_eq_false_iff_eq.mpr c39
                    clear c39
                    replace H := Option.bind_eq_some_iff.mp H
                    obtain ⟨t344, A400, H⟩ := H
                    replace H : (if t344 = true then (some (t332, x337001_4, 0)) else (some (0, ([] : List (List Int)), 3))) = some (r1, r2, r3) := H
                    have A40 := Aside0.mk A400
                    clear A400
                    by_cases c41 : t344 = true
                    ·subst c41
                     have H1 : (some (t332, x337001_4, 0)) = some (r1, r2, r3) := by rw [if_pos rfl] at H; exact H
                     clear H
                     have H := H1
                     clear H1
                     simp only [Option.some.injEq, Prod.mk.injEq] at H
                     obtain ⟨rfl, rfl, rfl⟩ := H
                     have hnb42 := NB336_331.out
                     have hnc42 := NB331_336.out
                     have hcz43_0 : wr.cell? ⟨gb336, 0, none⟩ = some (.int .i64 t332) := (blk_cell BK336.out 0).trans rfl
                     have hcz43_1 : wr.cell? ⟨gb336, 1, none⟩ = some (u337001) := (blk_cell BK336.out 1).trans rfl
                     have hfz43_0 := blk_frozen BK336.out 0
                     have hfz43_1 := blk_frozen BK336.out 1
                     obtain ⟨Ao44, co44, eo44⟩ := Kd.S_slice HO_337001.out
                     subst eo44
                     go_wp2_with (first | (go_at_call 16; (with_reducible refine (assessorref26_Valid.calls k4 t332 _ _ x337001_4 true _ ?side1 ?side2 A40.out).mono ?_); (case side1 => repeat (first | exact (Kd.S_reads' HO_337001.out).2.2 | (with_reducible refine Kd.C_alloc ?_ _) | (with_reducible refine Kd.C_drewN ?_ _) | (with_reducible refine Kd.C_drew ?_))); (case side2 => exact (Kd.S_reads' HO_337001.out).2.1); rintro e w45 ⟨rfl, hb⟩; have n0_ := Aside0.mk (Kd.S_below (by (with_reducible repeat (first | apply Kd.S_alloc | apply Kd.S_drewN | apply Kd.S_drew)); exact HO_337001.out) hb); have n1_ := Aside0.mk (blk_below (g := gb331) (o := .cells #[.int .i64 x332000_4, .slice none 0 0] 24 (0, 0)) (by (with_reducible repeat (first | refine blk_drewN ?_ _ | refine blk_drew ?_ | refine blk_alloc ?_ _)); exact BK331.out) hb); have n2_ := Aside0.mk (blk_below (g := gb336) (o := .cells #[.int .i64 t332, .slice Ao44 x337001_4.length co44] 24 (0, 0)) (by (with_reducible repeat (first | refine blk_drewN ?_ _ | refine blk_drew ?_ | refine blk_alloc ?_ _)); exact BK336.out) hb); have n3_ := Aside0.mk (below_step (by repeat (first | (with_reducible first | exact HB.out | apply below_alloc | apply pw_below_drewN | apply below_drew1 | refine below_set ?_ GE331.out | refine below_set ?_ GE336.out) | exact HB.out)) hb); clear HO_337001; clear BK331; clear BK336; clear HB; have HO_337001 := n0_; have BK331 := n1_; have BK336 := n2_; have HB := n3_; clear n0_ n1_ n2_ n3_; (try clear hb); (try clear hb2); (try clear hk); (try clear hi); have hcz46_0 : w45.cell? ⟨gb336, 0, none⟩ = some (.int .i64 t332) := (blk_cell BK336.out 0).trans rfl; have hcz46_1 : w45.cell? ⟨gb336, 1, none⟩ = some (.slice Ao44 x337001_4.length co44) := (blk_cell BK336.out 1).trans rfl; have hfz46_0 := blk_frozen BK336.out 0; have hfz46_1 := blk_frozen BK336.out 1; have hcz47_0 : w45.cell? ⟨gb331, 0, none⟩ = some (.int .i64 x332000_4) := (blk_cell BK331.out 0).trans rfl; have hcz47_1 : w45.cell? ⟨gb331, 1, none⟩ = some (.slice none 0 0) := (blk_cell BK331.out 1).trans rfl; have hfz47_0 := blk_frozen BK331.out 0; have hfz47_1 := blk_frozen BK331.out 1))
                     refine bodyPost_ret (results_ct rfl _ _ gb331 24 #[.int .i64 t332, .slice Ao44 x337001_4.length co44] (0, 0) _ rfl (by (with_reducible repeat (first | refine blk_drewN ?_ _ | refine blk_drew ?_ | refine blk_alloc ?_ _)); refine blk_put (cs := #[.int .i64 t332, .slice none 0 0]) ?_ 1 _ rfl; (with_reducible repeat (first | refine blk_drewN ?_ _ | refine blk_drew ?_ | refine blk_alloc ?_ _)); refine blk_put (cs := #[.int .i64 x332000_4, .slice none 0 0]) ?_ 0 _ rfl; (with_reducible repeat (first | refine blk_drewN ?_ _ | refine blk_drew ?_ | refine blk_alloc ?_ _)); exact BK331.out) Tryz.underlying24 rfl (by kernel_rfl)) rfl ?_
                     exact ⟨_, by first | rfl | (simp [errW_none, errW_some] <;> rfl) | (simp only [← hji11, ← hji32]; first | rfl | (simp [errW_none, errW_some] <;> rfl)) | (simp [*, errW_none, errW_some] <;> rfl), by (with_reducible repeat (first | apply Kd.S_alloc | apply Kd.S_drewN | apply Kd.S_drew)); exact Kd.S_mono (Kd.S_far (p := ⟨gb331, 1, none⟩) (Kd.S_far (p := ⟨gb331, 0, none⟩) (Kd.S_types HO_337001.out BK331.out (by decide)) (fun _ hk => hk.2) (.int .i64 t332)) (fun _ hk => hk.2) (.slice Ao44 x337001_4.length co44)) (fun _ hk => trivial), by repeat (first | (with_reducible first | exact HB.out | apply below_alloc | apply pw_below_drewN | apply below_drew1 | refine below_set ?_ GE331.out | refine below_set ?_ GE336.out) | exact HB.out)⟩
                    ·replace c41 := Bool.eq_false_iff.mpr c41
                     subst c41
                     have H1 : (some (0, ([] : List (List Int)), 3)) = some (r1, r2, r3) := by rw [if_neg (show ¬ (false = true) by decide)] at H; exact H
                     clear H
                     have H := H1
                     clear H1
                     simp only [Option.some.injEq, Prod.mk.injEq] at H
                     obtain ⟨rfl, rfl, rfl⟩ := H
                     have hnb48 := NB336_331.out
                     have hnc48 := NB331_336.out
                     have hcz49_0 : wr.cell? ⟨gb336, 0, none⟩ = some (.int .i64 t332) := (blk_cell BK336.out 0).trans rfl
                     have hcz49_1 : wr.cell? ⟨gb336, 1, none⟩ = some (u337001) := (blk_cell BK336.out 1).trans rfl
                     have hfz49_0 := blk_frozen BK336.out 0
                     have hfz49_1 := blk_frozen BK336.out 1
                     obtain ⟨Ao50, co50, eo50⟩ := Kd.S_slice HO_337001.out
                     subst eo50
                     go_wp2_with (first | (go_at_call 16; (with_reducible refine (assessorref26_Valid.calls k4 t332 _ _ x337001_4 false _ ?side1 ?side2 A40.out).mono ?_); (case side1 => repeat (first | exact (Kd.S_reads' HO_337001.out).2.2 | (with_reducible refine Kd.C_alloc ?_ _) | (with_reducible refine Kd.C_drewN ?_ _) | (with_reducible refine Kd.C_drew ?_))); (case side2 => exact (Kd.S_reads' HO_337001.out).2.1); rintro e w51 ⟨rfl, hb⟩; have n0_ := Aside0.mk (Kd.S_below (by (with_reducible repeat (first | apply Kd.S_alloc | apply Kd.S_drewN | apply Kd.S_drew)); exact HO_337001.out) hb); have n1_ := Aside0.mk (blk_below (g := gb331) (o := .cells #[.int .i64 x332000_4, .slice none 0 0] 24 (0, 0)) (by (with_reducible repeat (first | refine blk_drewN ?_ _ | refine blk_drew ?_ | refine blk_alloc ?_ _)); exact BK331.out) hb); have n2_ := Aside0.mk (blk_below (g := gb336) (o := .cells #[.int .i64 t332, .slice Ao50 x337001_4.length co50] 24 (0, 0)) (by (with_reducible repeat (first | refine blk_drewN ?_ _ | refine blk_drew ?_ | refine blk_alloc ?_ _)); exact BK336.out) hb); have n3_ := Aside0.mk (below_step (by repeat (first | (with_reducible first | exact HB.out | apply below_alloc | apply pw_below_drewN | apply below_drew1 | refine below_set ?_ GE331.out | refine below_set ?_ GE336.out) | exact HB.out)) hb); clear HO_337001; clear BK331; clear BK336; clear HB; have HO_337001 := n0_; have BK331 := n1_; have BK336 := n2_; have HB := n3_; clear n0_ n1_ n2_ n3_; (try clear hb); (try clear hb2); (try clear hk); (try clear hi); have hcz52_0 : w51.cell? ⟨gb331, 0, none⟩ = some (.int .i64 x332000_4) := (blk_cell BK331.out 0).trans rfl; have hcz52_1 : w51.cell? ⟨gb331, 1, none⟩ = some (.slice none 0 0) := (blk_cell BK331.out 1).trans rfl; have hfz52_0 := blk_frozen BK331.out 0; have hfz52_1 := blk_frozen BK331.out 1))
                     refine bodyPost_ret (results_ct rfl _ _ gb331 24 #[.int .i64 0, .slice none 0 0] (0, 0) _ rfl (by (with_reducible repeat (first | refine blk_drewN ?_ _ | refine blk_drew ?_ | refine blk_alloc ?_ _)); refine blk_put (cs := #[.int .i64 0, .slice none 0 0]) ?_ 1 _ rfl; (with_reducible repeat (first | refine blk_drewN ?_ _ | refine blk_drew ?_ | refine blk_alloc ?_ _)); refine blk_put (cs := #[.int .i64 x332000_4, .slice none 0 0]) ?_ 0 _ rfl; (with_reducible repeat (first | refine blk_drewN ?_ _ | refine blk_drew ?_ | refine blk_alloc ?_ _)); exact BK331.out) Tryz.underlying24 rfl (by kernel_rfl)) rfl ?_
                     exact ⟨_, by first | rfl | (simp [errW_none, errW_some] <;> rfl) | (simp only [← hji11, ← hji32]; first | rfl | (simp [errW_none, errW_some] <;> rfl)) | (simp [*, errW_none, errW_some] <;> rfl), by first | exact Kd.S_nil _ _ _ _ _ | exact Kd.N_nil _ _ _ _ _ | exact Kd.V_nil _ _ _ _ _ | exact Kd.Q_nil _ _ _ _ _ | exact Kd.R_nil _ _ _ _ _, by repeat (first | (with_reducible first | exact HB.out | apply below_alloc | apply pw_below_drewN | apply below_drew1 | refine below_set ?_ GE331.out | refine below_set ?_ GE336.out) | exact HB.out)⟩
                   ·rw [if_neg c39] at H
                    have c39b0 : ((x337001_4.length : Int) == t334) = false := beq_eq_false_iff_ne.mpr c39
                    have c39b1 : ((x337001_4.length : Int) != t334) = true := bne_iff_ne.mpr c39
                    simp only [Option.some.injEq, Prod.mk.injEq] at H
                    obtain ⟨rfl, rfl, rfl⟩ := H
                    have hnb53 := NB336_331.out
                    have hnc53 := NB331_336.out
                    have hcz54_0 : wr.cell? ⟨gb336, 0, none⟩ = some (.int .i64 t332) := (blk_cell BK336.out 0).trans rfl
                    have hcz54_1 : wr.cell? ⟨gb336, 1, none⟩ = some (u337001) := (blk_cell BK336.out 1).trans rfl
                    have hfz54_0 := blk_frozen BK336.out 0
                    have hfz54_1 := blk_frozen BK336.out 1
                    obtain ⟨Ao55, co55, eo55⟩ := Kd.S_slice HO_337001.out
                    subst eo55
                    have hcz56_0 : wr.cell? ⟨gb331, 0, none⟩ = some (.int .i64 x332000_4) := (blk_cell BK331.out 0).trans rfl
                    have hcz56_1 : wr.cell? ⟨gb331, 1, none⟩ = some (.slice none 0 0) := (blk_cell BK331.out 1).trans rfl
                    have hfz56_0 := blk_frozen BK331.out 0
                    have hfz56_1 := blk_frozen BK331.out 1
                    go_wp2
                    refine bodyPost_ret (results_ct rfl _ _ gb331 24 #[.int .i64 0, .slice none 0 0] (0, 0) _ rfl (by (with_reducible repeat (first | refine blk_drewN ?_ _ | refine blk_drew ?_ | refine blk_alloc ?_ _)); refine blk_put (cs := #[.int .i64 0, .slice none 0 0]) ?_ 1 _ rfl; (with_reducible repeat (first | refine blk_drewN ?_ _ | refine blk_drew ?_ | refine blk_alloc ?_ _)); refine blk_put (cs := #[.int .i64 x332000_4, .slice none 0 0]) ?_ 0 _ rfl; (with_reducible repeat (first | refine blk_drewN ?_ _ | refine blk_drew ?_ | refine blk_alloc ?_ _)); exact BK331.out) Tryz.underlying24 rfl (by kernel_rfl)) rfl ?_
                    exact ⟨_, by first | rfl | (simp [errW_none, errW_some] <;> rfl) | (simp only [← hji11, ← hji32]; first | rfl | (simp [errW_none, errW_some] <;> rfl)) | (simp [*, errW_none, errW_some] <;> rfl), by first | exact Kd.S_nil _ _ _ _ _ | exact Kd.N_nil _ _ _ _ _ | exact Kd.V_nil _ _ _ _ _ | exact Kd.Q_nil _ _ _ _ _ | exact Kd.R_nil _ _ _ _ _, by repeat (first | (with_reducible first | exact HB.out | apply below_alloc | apply pw_below_drewN | apply below_drew1 | refine below_set ?_ GE331.out | refine below_set ?_ GE336.out) | exact HB.out)⟩
                  ·rw [if_neg c38] at H
                   have c38b0 : (x6_4.toList == ([] : List UInt8)) = false := beq_eq_false_iff_ne.mpr c38
                   have c38b1 : (x6_4.toList != ([] : List UInt8)) = true := bne_iff_ne.mpr c38
                   replace H := Option.bind_eq_some_iff.mp H
                   obtain ⟨⟨t337, t338⟩, A570, H⟩ := H
                   replace H : (if t338 = 0 then (some (0, ([] : List (List Int)), 3)) else (if x337001_4.length < 5864062014805 then (if 0 ≤ t338 then (if t338 ≤ (x6_4.size : Int) then (assessorref26_Parse.l0 k4 (x6_4.extract (t338 : Int).toNat x6_4.size) t334 t332 (x337001_4 ++ [t337])) else (none)) else (none)) else (none))) = some (r1, r2, r3) := H
                   have A57 := Aside0.mk A570
                   clear A570
                   by_cases c58 : t338 = 0
                   ·rw [if_pos c58] at H
                    have c58b0 : (t338 == 0) = true := beq_iff_eq.mpr c58
                    have c58b1 : (t338 != 0) = false := bne_eq_false_iff_eq.mpr c58
                    clear c58
                    simp only [Option.some.injEq, Prod.mk.injEq] at H
                    obtain ⟨rfl, rfl, rfl⟩ := H
                    go_wp2_with (first | ((with_reducible refine gate_callee (f := 65) rfl ?_); refine goesL_ (some 75) rfl rfl Tryz.func65 (by kernel_rfl) rfl #[.string x6_4] rfl (by (try simp only [List.map_toArray, List.map_cons, List.map_nil]); first | done | rfl | (simp only [List.length_drop, List.length_take]; rfl)) ?_; (with_reducible refine (assessorref26_ReadLine.calls k4 x6_4 t337 t338 _ A57.out).mono ?_); rintro e w59 ⟨v339, rfl, ho0, hb⟩; refine ⟨_, rfl, ?_⟩; have n0_ := Aside0.mk (Kd.S_elder' (by (with_reducible repeat (first | apply Kd.S_alloc | apply Kd.S_drewN | apply Kd.S_drew)); exact HO_337001.out) (Kd.R_base ho0) hb); have n1_ := Aside0.mk (Kd.R_lower ho0 (below_size (by repeat (first | (with_reducible first | exact HB.out | apply below_alloc | apply pw_below_drewN | apply below_drew1 | refine below_set ?_ GE331.out | refine below_set ?_ GE336.out) | exact HB.out)))); have n2_ := Aside0.mk (blk_below (g := gb331) (o := .cells #[.int .i64 x332000_4, .slice none 0 0] 24 (0, 0)) (by (with_reducible repeat (first | refine blk_drewN ?_ _ | refine blk_drew ?_ | refine blk_alloc ?_ _)); exact BK331.out) hb); have n3_ := Aside0.mk (blk_below (g := gb336) (o := .cells #[.int .i64 t332, u337001] 24 (0, 0)) (by (with_reducible repeat (first | refine blk_drewN ?_ _ | refine blk_drew ?_ | refine blk_alloc ?_ _)); exact BK336.out) hb); have n4_ := Aside0.mk (below_step (by repeat (first | (with_reducible first | exact HB.out | apply below_alloc | apply pw_below_drewN | apply below_drew1 | refine below_set ?_ GE331.out | refine below_set ?_ GE336.out) | exact HB.out)) hb); clear HO_337001; clear BK331; clear BK336; clear HB; have HO_337001 := n0_; have HO340 := n1_; have BK331 := n2_; have BK336 := n3_; have HB := n4_; clear n0_ n1_ n2_ n3_ n4_; (try clear hb); (try clear hb2); (try clear hk); (try clear hi); (try clear ho0); have hnb60 := NB331_336.out; have hnc60 := NB336_331.out; have hcz61_0 : w59.cell? ⟨gb331, 0, none⟩ = some (.int .i64 x332000_4) := (blk_cell BK331.out 0).trans rfl; have hcz61_1 : w59.cell? ⟨gb331, 1, none⟩ = some (.slice none 0 0) := (blk_cell BK331.out 1).trans rfl; have hfz61_0 := blk_frozen BK331.out 0; have hfz61_1 := blk_frozen BK331.out 1))
                    refine bodyPost_ret (results_ct rfl _ _ gb331 24 #[.int .i64 0, .slice none 0 0] (0, 0) _ rfl (by (with_reducible repeat (first | refine blk_drewN ?_ _ | refine blk_drew ?_ | refine blk_alloc ?_ _)); refine blk_put (cs := #[.int .i64 0, .slice none 0 0]) ?_ 1 _ rfl; (with_reducible repeat (first | refine blk_drewN ?_ _ | refine blk_drew ?_ | refine blk_alloc ?_ _)); refine blk_put (cs := #[.int .i64 x332000_4, .slice none 0 0]) ?_ 0 _ rfl; (with_reducible repeat (first | refine blk_drewN ?_ _ | refine blk_drew ?_ | refine blk_alloc ?_ _)); exact BK331.out) Tryz.underlying24 rfl (by kernel_rfl)) rfl ?_
                    exact ⟨_, by first | rfl | (simp [errW_none, errW_some] <;> rfl) | (simp only [← hji11, ← hji32]; first | rfl | (simp [errW_none, errW_some] <;> rfl)) | (simp [*, errW_none, errW_some] <;> rfl), by first | exact Kd.S_nil _ _ _ _ _ | exact Kd.N_nil _ _ _ _ _ | exact Kd.V_nil _ _ _ _ _ | exact Kd.Q_nil _ _ _ _ _ | exact Kd.R_nil _ _ _ _ _, by repeat (first | (with_reducible first | exact HB.out | apply below_alloc | apply pw_below_drewN | apply below_drew1 | refine below_set ?_ GE331.out | refine below_set ?_ GE336.out) | exact HB.out)⟩
                   ·rw [if_neg c58] at H
                    have c58b0 : (t338 == 0) = false := beq_eq_false_iff_ne.mpr c58
                    have c58b1 : (t338 != 0) = true := bne_iff_ne.mpr c58
                    by_cases c62 : x337001_4.length < 5864062014805
                    ·rw [if_pos c62] at H
                     have LMc62 := Aside0.mk c62
                     clear c62
                     obtain ⟨y341, hy341⟩ : ∃ y_ : List (List Int), y_ = (x337001_4 ++ [t337]) := ⟨_, rfl⟩
                     replace H : (if 0 ≤ t338 then (if t338 ≤ (x6_4.size : Int) then (assessorref26_Parse.l0 k4 (x6_4.extract (t338 : Int).toNat x6_4.size) t334 t332 y341) else (none)) else (none)) = some (r1, r2, r3) := by first | (rw [hy341]; with_reducible exact H) | (have H2_ := (Option.bind_some _ _).symm.trans H; rw [hy341]; with_reducible exact H2_) | (have H2_ := (Option.bind_some _ _).symm.trans H; with_reducible exact H2_) | with_reducible exact H | (rw [hy341]; exact H) | exact H
                     have Ny341 := Aside0.mk hy341
                     clear hy341
                     by_cases c63 : 0 ≤ t338
                     ·rw [if_pos c63] at H
                      have c63b0 := eq_true c63
                      have c63b1 : decide (0 ≤ t338) = true := decide_eq_true c63
                      clear c63
                      by_cases c64 : t338 ≤ (x6_4.size : Int)
                      ·rw [if_pos c64] at H
                       have c64b0 := eq_true c64
                       have c64b1 : decide (t338 ≤ (x6_4.size : Int)) = true := decide_eq_true c64
                       clear c64
                       have H' := Aside0.mk H
                       clear H
                       go_wp2_with (first | ((with_reducible refine gate_callee (f := 65) rfl ?_); refine goesL_ (some 75) rfl rfl Tryz.func65 (by kernel_rfl) rfl #[.string x6_4] rfl (by (try simp only [List.map_toArray, List.map_cons, List.map_nil]); first | done | rfl | (simp only [List.length_drop, List.length_take]; rfl)) ?_; (with_reducible refine (assessorref26_ReadLine.calls k4 x6_4 t337 t338 _ A57.out).mono ?_); rintro e w65 ⟨v339, rfl, ho0, hb⟩; refine ⟨_, rfl, ?_⟩; have n0_ := Aside0.mk (Kd.S_elder' (by (with_reducible repeat (first | apply Kd.S_alloc | apply Kd.S_drewN | apply Kd.S_drew)); exact HO_337001.out) (Kd.R_base ho0) hb); have n1_ := Aside0.mk (Kd.R_lower ho0 (below_size (by repeat (first | (with_reducible first | exact HB.out | apply below_alloc | apply pw_below_drewN | apply below_drew1 | refine below_set ?_ GE331.out | refine below_set ?_ GE336.out) | exact HB.out)))); have n2_ := Aside0.mk (blk_below (g := gb331) (o := .cells #[.int .i64 x332000_4, .slice none 0 0] 24 (0, 0)) (by (with_reducible repeat (first | refine blk_drewN ?_ _ | refine blk_drew ?_ | refine blk_alloc ?_ _)); exact BK331.out) hb); have n3_ := Aside0.mk (blk_below (g := gb336) (o := .cells #[.int .i64 t332, u337001] 24 (0, 0)) (by (with_reducible repeat (first | refine blk_drewN ?_ _ | refine blk_drew ?_ | refine blk_alloc ?_ _)); exact BK336.out) hb); have n4_ := Aside0.mk (below_step (by repeat (first | (with_reducible first | exact HB.out | apply below_alloc | apply pw_below_drewN | apply below_drew1 | refine below_set ?_ GE331.out | refine below_set ?_ GE336.out) | exact HB.out)) hb); clear HO_337001; clear BK331; clear BK336; clear HB; have HO_337001 := n0_; have HO340 := n1_; have BK331 := n2_; have BK336 := n3_; have HB := n4_; clear n0_ n1_ n2_ n3_ n4_; (try clear hb); (try clear hb2); (try clear hk); (try clear hi); (try clear ho0); have hnb66 := NB336_331.out; have hnc66 := NB331_336.out; have hcz67_0 : w65.cell? ⟨gb336, 0, none⟩ = some (.int .i64 t332) := (blk_cell BK336.out 0).trans rfl; have hcz67_1 : w65.cell? ⟨gb336, 1, none⟩ = some (u337001) := (blk_cell BK336.out 1).trans rfl; have hfz67_0 := blk_frozen BK336.out 0; have hfz67_1 := blk_frozen BK336.out 1; obtain ⟨Ao69, co69, eo69⟩ := Kd.R_slice HO340.out; subst eo69) | ((with_reducible refine gate_builtin (b := .append) (xs := #[.tmp 82, .tmp 84]) rfl ?_); (try (refine gate_guard (by rfl) ?_; dsimp only)); at_builtin; refine Kd.S_append (Kd.slice 3 (Kd.int .i64)) (w0 := w) w.heap.size rfl (.tmp 82) (.tmp 84) 22 25 (.slice none 0 0) 24 rfl Tryz.underlying22 info25 rfl (by decide) (by omega) u337001 x337001_4 t337 [.slice Ao69 t337.length co69] (fun _ => True) (fun k_ => some k_ = (.slice Ao69 t337.length co69 : Value).ownBlock) rfl rfl ?aP (fun k_ hk_ => ((Kd.R_mono (ok' := fun k_ => ((fun _ => True)) k_ ∧ some k_ ≠ (u337001 : Value).ownBlock) (Kd.R_apart' (HO340.out) (Kd.S_typed HO_337001.out) (by decide)) (fun k_ hk => ⟨trivial, hk.2⟩))).1 k_ hk_.symm) ?aF ?aO ?aB ?aS ?aL ?_; (case aP => exact Kd.M_row (Kd.R_mono (Kd.R_tight rfl (Kd.R_mono (ok' := fun k_ => ((fun _ => True)) k_ ∧ some k_ ≠ (u337001 : Value).ownBlock) (Kd.R_apart' (HO340.out) (Kd.S_typed HO_337001.out) (by decide)) (fun k_ hk => ⟨trivial, hk.2⟩))) (fun _ h_ => h_))); (case aB => exact (by repeat (first | (with_reducible first | exact HB.out | apply below_alloc | apply pw_below_drewN | apply below_drew1 | refine below_set ?_ GE331.out | refine below_set ?_ GE336.out) | exact HB.out))); (case aF => exact (fun _ _ => trivial)); (case aO => exact (by (with_reducible repeat (first | apply Kd.S_alloc | apply Kd.S_drewN | apply Kd.S_drew)); exact Kd.S_mono HO_337001.out (fun k_ hk => ⟨trivial, fun e_ => hk.2 e_⟩))); (case aS => exact (below_size (by repeat (first | (with_reducible first | exact HB.out | apply below_alloc | apply pw_below_drewN | apply below_drew1 | refine below_set ?_ GE331.out | refine below_set ?_ GE336.out) | exact HB.out)))); (case aL => have := LMc62.out; omega); intro v342 w68 ho hb hg hat; rw [← Ny341.out] at ho; have n0_ := Aside0.mk (blk_grown (g := gb331) (o := .cells #[.int .i64 x332000_4, .slice none 0 0] 24 (0, 0)) (by (with_reducible repeat (first | refine blk_drewN ?_ _ | refine blk_drew ?_ | refine blk_alloc ?_ _)); exact BK331.out) hg (Kd.S_ne HO_337001.out BK331.out (by decide))); have n1_ := Aside0.mk (blk_grown (g := gb336) (o := .cells #[.int .i64 t332, u337001] 24 (0, 0)) (by (with_reducible repeat (first | refine blk_drewN ?_ _ | refine blk_drew ?_ | refine blk_alloc ?_ _)); exact BK336.out) hg (Kd.S_ne HO_337001.out BK336.out (by decide))); have n2_ := Aside0.mk (hb); have n3_ := Aside0.mk (ho); clear BK331; clear BK336; clear HB; clear HO_337001; clear HO340; have BK331 := n0_; have BK336 := n1_; have HB := n2_; have HO343 := n3_; clear n0_ n1_ n2_ n3_; clear ho hb hg hat; obtain ⟨Ao70, co70, eo70⟩ := Kd.S_slice HO343.out; subst eo70; have hcz71_0 : w68.cell? ⟨gb336, 0, none⟩ = some (.int .i64 t332) := (blk_cell BK336.out 0).trans rfl; have hcz71_1 : w68.cell? ⟨gb336, 1, none⟩ = some (u337001) := (blk_cell BK336.out 1).trans rfl; have hfz71_0 := blk_frozen BK336.out 0; have hfz71_1 := blk_frozen BK336.out 1))
                       go_roundg k4
                       case measure => have := HJ1.out; have := HJ13.out; have := HJ22.out; have := HK4.out; omega
                       case rel => exact ⟨(x6_4.extract (t338 : Int).toNat x6_4.size), (x332000_4), (y341), (.slice Ao70 y341.length co70), (by first | rfl | (simp; done) | (simp [*]; done)), H', ⟨by have := HJ1.out; have := HJ13.out; have := HJ22.out; have := HK4.out; omega⟩, ⟨by (with_reducible repeat (first | apply Kd.S_alloc | apply Kd.S_drewN | apply Kd.S_drew)); exact Kd.S_mono (Kd.S_far (p := ⟨gb336, 1, none⟩) (Kd.S_types HO343.out BK336.out (by decide)) (fun _ hk => hk.2) (.slice Ao70 y341.length co70)) (fun _ hk => trivial)⟩, ⟨by (with_reducible repeat (first | refine blk_drewN ?_ _ | refine blk_drew ?_ | refine blk_alloc ?_ _)); refine blk_far ?_ NB331_336.out _; (with_reducible repeat (first | refine blk_drewN ?_ _ | refine blk_drew ?_ | refine blk_alloc ?_ _)); exact BK331.out⟩, ⟨by (with_reducible repeat (first | refine blk_drewN ?_ _ | refine blk_drew ?_ | refine blk_alloc ?_ _)); refine blk_put (cs := #[.int .i64 t332, u337001]) ?_ 1 _ rfl; (with_reducible repeat (first | refine blk_drewN ?_ _ | refine blk_drew ?_ | refine blk_alloc ?_ _)); exact BK336.out⟩, ⟨by repeat (first | (with_reducible first | exact HB.out | apply below_alloc | apply pw_below_drewN | apply below_drew1 | refine below_set ?_ GE331.out | refine below_set ?_ GE336.out) | exact HB.out)⟩⟩
                      ·rw [if_neg c64] at H
                       exact absurd H (by simp)
                     ·rw [if_neg c63] at H
                      exact absurd H (by simp)
                    ·rw [if_neg c62] at H
                     exact absurd H (by simp)
               ·rw [if_neg c34] at H
                exact absurd H (by simp)
              ·rw [if_neg c33] at H
               exact absurd H (by simp)
          ·rw [if_neg c21] at H
           exact absurd H (by simp)
      ·rw [if_neg c13] at H
       exact absurd H (by simp)
     ·rw [if_neg c12] at H
      exact absurd H (by simp)
    ·rw [if_neg c9] at H
     exact absurd H (by simp)

end Go.Proofs.YteaohgebocbehaaGreatDoor.XA
