/- Functions of the given Go program as Lean functions, each with a proof that the machine's call answers so; conditions: the premises written in each. -/
import Derived.Test.YteaohgebocbehaaGreatDoorXAx0
import Derived.Test.YteaohgebocbehaaGreatDoorXAx5
import Derived.Test.YteaohgebocbehaaGreatDoorXAx6
import Derived.Test.YteaohgebocbehaaGreatDoorXAx11
namespace Go.Proofs.YteaohgebocbehaaGreatDoor.XA
open Go.RowKit Go.Proofs.YteaohgebocbehaaGreatDoorW.PrintWords Go.Proofs.YteaohgebocbehaaGreatDoorW.PrintLast Go.Proofs.YteaohgebocbehaaGreatDoorW.PrintMore
attribute [local go_sem] max2_int min2_int max_two min_two max_three min_three max_four min_four   -- for this text's walks alone
set_option linter.unusedVariables false
set_option linter.unusedSimpArgs false

/-! ### assessorref26_Propagate: function 25 -/
mutual
def assessorref26_Propagate.l0 : Nat → List Int → Int → Int → List (List Int) → Option (List Int × Bool × Int)
 | 0, _, _, _, _ => none
 | k + 1, x1, x7, x304000, x304001 => if x7 < (x1.length : Int) then (if 0 ≤ x7 then (if x7 ≤ (wrap64 (x7 + 1)) then (if (wrap64 (x7 + 1)) ≤ (x1.length : Int) then ((assessorref26_IsClause.f k ((x1.take ((wrap64 (x7 + 1)) : Int).toNat).drop (x7 : Int).toNat) x304000).bind fun t306 => (if t306 = true then (assessorref26_Propagate.l0 k x1 (wrap64 (x7 + 1)) x304000 x304001) else (some (([] : List Int), false, 1)))) else (none)) else (none)) else (none)) else ((assessorref26_Closure.f k x304000 x304001 x1).bind fun bt307 => (if bt307.2 = true then (assessorref26_Propagate.l1 k bt307.1 (([] : List Int)) 1 x304000 x304001) else (some (([] : List Int), false, 0))))
def assessorref26_Propagate.l1 : Nat → List Int → List Int → Int → Int → List (List Int) → Option (List Int × Bool × Int)
 | 0, _, _, _, _, _ => none
 | k + 1, x8, x10, x11, x304000, x304001 => if x11 ≤ x304000 then (if 0 ≤ x11 then (if x11 < (x8.length : Int) then (if (rd x8 x11) = 0 then (assessorref26_Propagate.l1 k x8 x10 (wrap64 (x11 + 1)) x304000 x304001) else (if x10.length < 17592186044416 then (assessorref26_Propagate.l1 k x8 (x10 ++ [rd x8 x11]) (wrap64 (x11 + 1)) x304000 x304001) else (none))) else (none)) else (none)) else (some (x10, true, 0))
end
def assessorref26_Propagate.f (k : Nat) (a0_0 : Int) (l0_1 : List (List Int)) (l1 : List Int) : Option (List Int × Bool × Int) := (assessorref26_Valid.f k a0_0 l0_1).bind fun t304 => (if t304 = true then (assessorref26_Propagate.l0 k l1 0 a0_0 l0_1) else (some (([] : List Int), false, 1)))
theorem assessorref26_Propagate.mono_l : ∀ k, (∀ y0 y1 y2 y3, LeO (assessorref26_Propagate.l0 k y0 y1 y2 y3) (assessorref26_Propagate.l0 (k + 1) y0 y1 y2 y3)) ∧ (∀ y0 y1 y2 y3 y4, LeO (assessorref26_Propagate.l1 k y0 y1 y2 y3 y4) (assessorref26_Propagate.l1 (k + 1) y0 y1 y2 y3 y4))
 | 0 => ⟨fun _ _ _ _ r h => by simp [assessorref26_Propagate.l0] at h, fun _ _ _ _ _ r h => by simp [assessorref26_Propagate.l1] at h⟩
 | k + 1 => by
  obtain ⟨ih0, ih1⟩ := assessorref26_Propagate.mono_l k
  refine ⟨?_, ?_⟩
  ·intro y0 y1 y2 y3
   unfold assessorref26_Propagate.l0
   repeat' first
   | (with_reducible exact ih0 _ _ _ _)
   | (with_reducible exact ih1 _ _ _ _ _)
   | (with_reducible exact assessorref26_Closure.mono _ _ _ _)
   | (with_reducible exact assessorref26_IsClause.mono _ _ _)
   | (with_reducible exact assessorref26_Valid.mono _ _ _)
   | (with_reducible exact LeO.refl _)
   | (with_reducible exact LeO.none _)
   | (with_reducible refine LeO.ite ?_ ?_)
   | (with_reducible refine LeO.bind ?_ (fun _ => ?_))
   | exact ih0 _ _ _ _
   | exact ih1 _ _ _ _ _
   | exact assessorref26_Closure.mono _ _ _ _
   | exact assessorref26_IsClause.mono _ _ _
   | exact assessorref26_Valid.mono _ _ _
   | exact LeO.none _
   | refine LeO.ite ?_ ?_
   | refine LeO.bind ?_ (fun _ => ?_)
  ·intro y0 y1 y2 y3 y4
   unfold assessorref26_Propagate.l1
   repeat' first
   | (with_reducible exact ih0 _ _ _ _)
   | (with_reducible exact ih1 _ _ _ _ _)
   | (with_reducible exact assessorref26_Closure.mono _ _ _ _)
   | (with_reducible exact assessorref26_IsClause.mono _ _ _)
   | (with_reducible exact assessorref26_Valid.mono _ _ _)
   | (with_reducible exact LeO.refl _)
   | (with_reducible exact LeO.none _)
   | (with_reducible refine LeO.ite ?_ ?_)
   | (with_reducible refine LeO.bind ?_ (fun _ => ?_))
   | exact ih0 _ _ _ _
   | exact ih1 _ _ _ _ _
   | exact assessorref26_Closure.mono _ _ _ _
   | exact assessorref26_IsClause.mono _ _ _
   | exact assessorref26_Valid.mono _ _ _
   | exact LeO.none _
   | refine LeO.ite ?_ ?_
   | refine LeO.bind ?_ (fun _ => ?_)
theorem assessorref26_Propagate.mono : ∀ a0 a1 a2 k, LeO (assessorref26_Propagate.f k a0 a1 a2) (assessorref26_Propagate.f (k + 1) a0 a1 a2) := by
 intro a0 a1 a2 k
 obtain ⟨ih0, ih1⟩ := assessorref26_Propagate.mono_l k
 unfold assessorref26_Propagate.f
 repeat' first
   | (with_reducible exact ih0 _ _ _ _)
   | (with_reducible exact ih1 _ _ _ _ _)
   | (with_reducible exact assessorref26_Closure.mono _ _ _ _)
   | (with_reducible exact assessorref26_IsClause.mono _ _ _)
   | (with_reducible exact assessorref26_Valid.mono _ _ _)
   | (with_reducible exact LeO.refl _)
   | (with_reducible exact LeO.none _)
   | (with_reducible refine LeO.ite ?_ ?_)
   | (with_reducible refine LeO.bind ?_ (fun _ => ?_))
   | exact ih0 _ _ _ _
   | exact ih1 _ _ _ _ _
   | exact assessorref26_Closure.mono _ _ _ _
   | exact assessorref26_IsClause.mono _ _ _
   | exact assessorref26_Valid.mono _ _ _
   | exact LeO.none _
   | refine LeO.ite ?_ ?_
   | refine LeO.bind ?_ (fun _ => ?_)
def assessorref26_Propagate.T6 : Bool × List (List Nat × List Nat) := (true, [([], []), ([], []), ([], []), ([2], [2]), ([0, 1, 3], [0, 1, 3]), ([], []), ([5], [5]), ([4, 6], [4, 6]), ([7], [7])])
def assessorref26_Propagate.B6 : List Nat := [0, 0, 0, 4, 15, 0, 32, 127, 255]
theorem assessorref26_Propagate.tab6 : rtab .any (opsOf Tryz.f25 6) = assessorref26_Propagate.T6 := by kernel_rfl
theorem assessorref26_Propagate.bits6 : waitsOk assessorref26_Propagate.T6.2 assessorref26_Propagate.B6 = true := by kernel_rfl
set_option maxHeartbeats 8000000 in
set_option maxRecDepth 100000 in
theorem assessorref26_Propagate.calls (k : Nat) (a0_0 : Int) (A0_1 : Option Addr) (c0_1 : Nat) (l0_1 : List (List Int)) (A1 : Option Addr) (c1 : Nat) (l1 : List Int) (r1 : List Int) (r2 : Bool) (r3 : Int) (w : World) (hr0_1 : Kd.C (Kd.slice 3 (Kd.int .i64)) w A0_1 l0_1.length l0_1) (hc0_1 : l0_1.length ≤ c0_1) (hr1 : Kd.C (Kd.int .i64) w A1 l1.length l1) (hc1 : l1.length ≤ c1) (h : assessorref26_Propagate.f k a0_0 l0_1 l1 = some (r1, r2, r3)) :
  Calls Tryz.prog 25 #[.agg #[.int .i64 a0_0, .slice A0_1 l0_1.length c0_1], .slice A1 l1.length c1] w fun e w' => ∃ v0_ : Value, e = .returned (.tuple #[v0_, .bool r2, .int .i64 r3]) ∧ Kd.R (Kd.int .i64) 3 w' w.heap.size (fun _ => True) v0_ r1 ∧ Below w.heap.size w w' := by
 have hu24 := Tryz.underlying24
 have HR0_1 := Aside0.mk hr0_1
 have HC0_1 := Aside0.mk hc0_1
 clear hr0_1 hc0_1
 have HR1 := Aside0.mk hr1
 have HC1 := Aside0.mk hc1
 clear hr1 hc1
 have HB := Aside0.mk (Below.refl w.heap.size w)
 have H : ((assessorref26_Valid.f k a0_0 l0_1).bind fun t304 => (if t304 = true then (assessorref26_Propagate.l0 k l1 0 a0_0 l0_1) else (some (([] : List Int), false, 1)))) = some (r1, r2, r3) := h
 clear h
 replace H := Option.bind_eq_some_iff.mp H
 obtain ⟨t304, A30, H⟩ := H
 replace H : (if t304 = true then (assessorref26_Propagate.l0 k l1 0 a0_0 l0_1) else (some (([] : List Int), false, 1))) = some (r1, r2, r3) := H
 have A3 := Aside0.mk A30
 clear A30
 by_cases c4 : t304 = true
 ·subst c4
  have H1 : (assessorref26_Propagate.l0 k l1 0 a0_0 l0_1) = some (r1, r2, r3) := by rw [if_pos rfl] at H; exact H
  clear H
  have H := H1
  clear H1
  have H' := Aside0.mk H
  clear H
  go_enter Tryz.func25, Tryz.ntmps25
  go_wp2_with (first | ((with_reducible refine gate_dst (N := 2) rfl ?_); refine box_event ?hg (N := 2) ?hd (cs := #[.int .i64 a0_0, .slice A0_1 l0_1.length c0_1]) (t := 24) ?hr ?_; (case hd => rfl); (case hg => rfl); (case hr => first | (go_simp; done) | (go_simp; rfl)); intro gb303 hg w5 hbox hb; have n0_ := Aside0.mk (below_step (by repeat (first | (with_reducible first | exact HB.out | apply below_alloc | apply pw_below_drewN | apply below_drew1) | exact HB.out)) hb); have n1_ := Aside0.mk (hbox); have n2_ := Aside0.mk ((by rw [hg]; exact (below_size (by repeat (first | (with_reducible first | exact HB.out | apply below_alloc | apply pw_below_drewN | apply below_drew1) | exact HB.out))) : w.heap.size ≤ gb303)); have n3_ := Aside0.mk ((by rw [hg]; exact (below_size (by repeat (first | (with_reducible first | exact HB.out | apply below_alloc | apply pw_below_drewN | apply below_drew1) | exact HB.out))) : w.heap.size ≤ gb303)); clear HB; have HB := n0_; have BK303 := n1_; have GW303 := n2_; have GE303 := n3_; clear n0_ n1_ n2_ n3_; clear hb hbox hg; have hcz6_0 : w5.cell? ⟨gb303, 0, none⟩ = some (.int .i64 a0_0) := (blk_cell BK303.out 0).trans rfl; have hcz6_1 : w5.cell? ⟨gb303, 1, none⟩ = some (.slice A0_1 l0_1.length c0_1) := (blk_cell BK303.out 1).trans rfl; have hfz6_0 := blk_frozen BK303.out 0; have hfz6_1 := blk_frozen BK303.out 1) | ((with_reducible refine gate_callee (f := 16) rfl ?_); refine goesL_ (some 13) rfl rfl Tryz.func16 (by kernel_rfl) rfl #[.agg #[.int .i64 a0_0, .slice A0_1 l0_1.length c0_1]] rfl (by (try simp only [List.map_toArray, List.map_cons, List.map_nil]); first | done | rfl | (simp only [List.length_drop, List.length_take]; rfl)) ?_; (with_reducible refine (assessorref26_Valid.calls k a0_0 _ _ l0_1 true _ ?side1 ?side2 A3.out).mono ?_); (case side1 => repeat (first | exact (Kd.C_below HR0_1.out HB.out) | (with_reducible refine Kd.C_alloc ?_ _) | (with_reducible refine Kd.C_drewN ?_ _) | (with_reducible refine Kd.C_drew ?_))); (case side2 => exact HC0_1.out); rintro e w7 ⟨rfl, hb⟩; refine ⟨_, rfl, ?_⟩; have n0_ := Aside0.mk (blk_below (g := gb303) (o := .cells #[.int .i64 a0_0, .slice A0_1 l0_1.length c0_1] 24 (0, 0)) (by (with_reducible repeat (first | refine blk_drewN ?_ _ | refine blk_drew ?_ | refine blk_alloc ?_ _)); exact BK303.out) hb); have n1_ := Aside0.mk (below_step (by repeat (first | (with_reducible first | exact HB.out | apply below_alloc | apply pw_below_drewN | apply below_drew1 | refine below_set ?_ GE303.out) | exact HB.out)) hb); clear BK303; clear HB; have BK303 := n0_; have HB := n1_; clear n0_ n1_; (try clear hb); (try clear hb2); (try clear hk); (try clear hi)))
  go_loopg [7] k (fun kq v7 w' => ∃ (x7_1 : Int), v7 = .int .i64 x7_1 ∧ Aside0 (assessorref26_Propagate.l0 kq l1 x7_1 a0_0 l0_1 = some (r1, r2, r3)) ∧ Aside0 (kq ≤ k) ∧ Aside0 (w'.heap[gb303]? = some (.cells #[.int .i64 a0_0, (.slice A0_1 l0_1.length c0_1)] 24 (0, 0))) ∧ Aside0 (Below w.heap.size w w'))
  case atStart => exact ⟨(0), (by first | rfl | (simp; done) | (simp [*]; done)), H', ⟨Nat.le_refl _⟩, ⟨by (with_reducible repeat (first | refine blk_drewN ?_ _ | refine blk_drew ?_ | refine blk_alloc ?_ _)); exact BK303.out⟩, ⟨by repeat (first | (with_reducible first | exact HB.out | apply below_alloc | apply pw_below_drewN | apply below_drew1 | refine below_set ?_ GE303.out) | exact HB.out)⟩⟩
  case round =>
   clear H'
   try clear c1
   try clear c2
   try clear p2
   try clear c4
   try clear hcz6_0
   try clear hcz6_1
   try clear hfz6_0
   try clear hfz6_1
   obtain ⟨x7_1, rfl, HA, HK1, BK303, HB⟩ := hrel
   cases gk with
   | zero => exact absurd HA.out (by simp [assessorref26_Propagate.l0])
   | succ k1 =>
    have H := HA.out
    clear HA
    simp only [assessorref26_Propagate.l0] at H
    by_cases c8 : x7_1 < (l1.length : Int)
    ·rw [if_pos c8] at H
     have c8b0 : decide (x7_1 < (l1.length : Int)) = true := decide_eq_true c8
     clear c8
     by_cases c9 : 0 ≤ x7_1
     ·rw [if_pos c9] at H
      have c9b0 := eq_true c9
      have c9b1 : decide (0 ≤ x7_1) = true := decide_eq_true c9
      clear c9
      by_cases c10 : x7_1 ≤ (wrap64 (x7_1 + 1))
      ·rw [if_pos c10] at H
       have c10b0 := eq_true c10
       have c10b1 : decide (x7_1 ≤ (wrap64 (x7_1 + 1))) = true := decide_eq_true c10
       by_cases c11 : (wrap64 (x7_1 + 1)) ≤ (l1.length : Int)
       ·rw [if_pos c11] at H
        have c11b0 := eq_true c11
        have c11b1 : decide ((wrap64 (x7_1 + 1)) ≤ (l1.length : Int)) = true := decide_eq_true c11
        replace H := Option.bind_eq_some_iff.mp H
        obtain ⟨t306, A120, H⟩ := H
        replace H : (if t306 = true then (assessorref26_Propagate.l0 k1 l1 (wrap64 (x7_1 + 1)) a0_0 l0_1) else (some (([] : List Int), false, 1))) = some (r1, r2, r3) := H
        have A12 := Aside0.mk A120
        clear A120
        by_cases c13 : t306 = true
        ·subst c13
         have H1 : (assessorref26_Propagate.l0 k1 l1 (wrap64 (x7_1 + 1)) a0_0 l0_1) = some (r1, r2, r3) := by rw [if_pos rfl] at H; exact H
         clear H
         have H := H1
         clear H1
         have H' := Aside0.mk H
         clear H
         try go_wp2
         have n0_ := Aside0.mk (blk_drew BK303.out)
         have n1_ := Aside0.mk (below_drew1 HB.out)
         clear BK303
         clear HB
         have BK303 := n0_
         have HB := n1_
         clear n0_ n1_
         obtain ⟨i015, hi015, _, hsz15, _⟩ := info_parts info3
         obtain ⟨A15, hcut15, hA15, hC15⟩ := print_mid_of (P := Tryz.prog) (Value.int .i64) 0 25 3 .i64 .i64 Tryz.underlying25 hi015 hsz15 A1 c1 l1 x7_1 (wrap64 (x7_1 + 1)) (of_decide_eq_true (by first | (with_reducible assumption) | assumption)) (by first | omega | exact of_decide_eq_true (by first | (with_reducible assumption) | assumption)) (of_decide_eq_true (by first | (with_reducible assumption) | assumption)) HC1.out
         have HR305 := Aside0.mk (Kd.C_of_reads (h1 := fun _ => rfl) (hA15 _ (Kd.reads_of_C HR1.out)))
         have HC305 := Aside0.mk hC15
         clear hA15 hC15 hi015 hsz15
         refine start_ (n := 9) (S := fun w' => w'.cell? ⟨gb303, 0, none⟩ = some (.int .i64 a0_0) ∧ w'.cell? ⟨gb303, 1, none⟩ = some (.slice A0_1 l0_1.length c0_1)) (ds := []) #[false, false, false, false, false, false, false, false, false] (by kernel_rfl) rfl rfl ⟨(blk_cell BK303.out 0).trans rfl, (blk_cell BK303.out 1).trans rfl⟩ (fun hHeld => ?_); refine with_tabW assessorref26_Propagate.tab6 assessorref26_Propagate.bits6 (fun HT_ HW_ => ?_)
         generalize wr.drew = w14 at BK303 HB HR305 hHeld ⊢
         refine pure_ (i := 0) (N := some 21) (v := ?_) (a' := ?_) #[true, false, false, false, false, false, false, false, false] rfl rfl (any_of HT_.out (by kernel_rfl)) (fun _ _ _ h => h) (Or.inl ⟨by rfl, ?_⟩) ?_ ?_
         rotate_left
         ·intro w'
          go_simp
          with_reducible rfl
         rotate_left
         ·simp only [Act.put, sA, sZ, sS, i64_w, i32_w]
          rfl
         refine pure_ (i := 1) (N := some 22) (v := ?_) (a' := ?_) #[true, true, false, false, false, false, false, false, false] rfl rfl (any_of HT_.out (by kernel_rfl)) (fun _ _ _ h => h) (Or.inl ⟨by rfl, ?_⟩) ?_ ?_
         rotate_left
         ·intro w'
          go_simp
          with_reducible rfl
         rotate_left
         ·simp only [Act.put, sA, sZ, sS, i64_w, i32_w]
          rfl
         refine pure_ (i := 2) (N := some 23) (v := ?_) (a' := ?_) #[true, true, true, false, false, false, false, false, false] rfl rfl (any_of HT_.out (by kernel_rfl)) (fun _ _ _ h => h) (Or.inl ⟨by rfl, ?_⟩) ?_ ?_
         rotate_left
         ·intro w'
          go_simp
          with_reducible rfl
         rotate_left
         ·simp only [Act.put, sA, sZ, sS, i64_w, i32_w]
          rfl
         refine pure_ (i := 3) (N := some 24) (v := ?_) (a' := ?_) #[true, true, true, true, false, false, false, false, false] rfl rfl (any_of HT_.out (by kernel_rfl)) (fun _ _ _ h => h) (Or.inl ⟨by rfl, ?_⟩) ?_ ?_
         rotate_left
         ·intro w'
          go_simp
          with_reducible rfl
         rotate_left
         ·simp only [Act.put, sA, sZ, sS, i64_w, i32_w]
          rfl
         refine pure_ (i := 4) (N := some 25) (v := ?_) (a' := ?_) #[true, true, true, true, true, false, false, false, false] rfl rfl (any_of HT_.out (by kernel_rfl)) (fun _ _ _ h => h) (Or.inl ⟨by rfl, ?_⟩) ?_ ?_
         rotate_left
         ·intro w'
          go_simp
          with_reducible rfl
         rotate_left
         ·simp only [Act.put, sA, sZ, sS, i64_w, i32_w]
          rfl
         refine pure_ (i := 5) (N := some 26) (v := ?_) (a' := ?_) #[true, true, true, true, true, true, false, false, false] rfl rfl (any_of HT_.out (by kernel_rfl)) (fun _ _ _ h => h) (Or.inl ⟨by rfl, ?_⟩) ?_ ?_
         rotate_left
         ·intro w'
          go_simp
          with_reducible rfl
         rotate_left
         ·simp only [Act.put, sA, sZ, sS, i64_w, i32_w]
          rfl
         refine take_ (i := 6) (N := some 27) (v := ?_) (a' := ?_) #[true, true, true, true, true, true, true, false, false] rfl rfl (take_ofW HT_.out HW_.out (by kernel_rfl)) (fun _ _ _ h => h) (Or.inl ⟨by rfl, ?_⟩) hHeld ?_ ?_
         rotate_left
         ·rintro w' ⟨s0, s1⟩
          go_simp
          with_reducible rfl
         rotate_left
         ·simp only [Act.put, sA, sZ, sS, i64_w, i32_w]
          rfl
         refine one_ (i := 7) (N := some 28) #[true, true, true, true, true, true, true, true, false] rfl rfl (one_of HT_.out (by kernel_rfl)) (by decide) (fun K hK => ?_)
         refine goes_ Tryz.func30 (by kernel_rfl) rfl #[.slice A15 ((l1.take ((wrap64 (x7_1 + 1)) : Int).toNat).drop (x7_1 : Int).toNat).length (c1 - x7_1.toNat), .int .i64 a0_0] (by rfl) rfl rfl (by (try simp only [List.map_toArray, List.map_cons, List.map_nil]); first | done | (rw [show ((l1.take ((wrap64 (x7_1 + 1)) : Int).toNat).drop (x7_1 : Int).toNat).length = ((wrap64 (x7_1 + 1)).toNat - x7_1.toNat) from (by rw [List.length_drop, List.length_take]; have h_ : ((wrap64 (x7_1 + 1)) : Int) ≤ (l1.length : Int) := of_decide_eq_true (by first | (with_reducible assumption) | assumption); omega)] <;> rfl) | rfl | (simp only [List.length_drop, List.length_take]; rfl)) ?_
         with_reducible refine (assessorref26_IsClause.calls k1 _ _ ((l1.take ((wrap64 (x7_1 + 1)) : Int).toNat).drop (x7_1 : Int).toNat) a0_0 true _ ?side1 ?side2 A12.out).mono ?_
         (case side1 => repeat (first | exact (Kd.C_below HR305.out HB.out) | (with_reducible refine Kd.C_alloc ?_ _) | (with_reducible refine Kd.C_drewN ?_ _) | (with_reducible refine Kd.C_drew ?_)))
         (case side2 => exact HC305.out)
         rintro e w16 ⟨rfl, hb⟩
         refine ⟨_, rfl, ?_⟩
         have n0_ := Aside0.mk (blk_below (g := gb303) (o := .cells #[.int .i64 a0_0, .slice A0_1 l0_1.length c0_1] 24 (0, 0)) (by (with_reducible repeat (first | refine blk_drewN ?_ _ | refine blk_drew ?_ | refine blk_alloc ?_ _)); exact BK303.out) hb)
         have n1_ := Aside0.mk (below_step (by repeat (first | (with_reducible first | exact HB.out | apply below_alloc | apply pw_below_drewN | apply below_drew1 | refine below_set ?_ GE303.out) | exact HB.out)) hb)
         clear BK303
         clear HB
         have BK303 := n0_
         have HB := n1_
         clear n0_ n1_
         (try clear hb)
         (try clear hb2)
         (try clear hk)
         (try clear hi)
         refine hK.out _ _ ⟨(blk_cell BK303.out 0).trans rfl, (blk_cell BK303.out 1).trans rfl⟩ (fun hHeld => ?_)
         clear hK K
         refine norm_ (a' := ?_) ?_ ?_
         rotate_left
         ·show Act.put _ (some 28) _ = _
          simp only [Act.put, sA, sZ, sS, i64_w, i32_w]
          rfl
         refine pure_ (i := 8) (N := some 29) (v := ?_) (a' := ?_) #[true, true, true, true, true, true, true, true, true] rfl rfl (any_of HT_.out (by kernel_rfl)) (fun _ _ _ h => h) (Or.inl ⟨by rfl, ?_⟩) ?_ ?_
         rotate_left
         ·intro w'
          go_simp
          with_reducible rfl
         rotate_left
         ·simp only [Act.put, sA, sZ, sS, i64_w, i32_w]
          rfl
         refine done_ (done_of HT_.out (by kernel_rfl)) ?_
         try go_wp2
         go_roundg k1
         case measure => have := HK1.out; omega
         case rel => exact ⟨(wrap64 (x7_1 + 1)), (by first | rfl | (simp; done) | (simp [*]; done)), H', ⟨by have := HK1.out; omega⟩, ⟨by (with_reducible repeat (first | refine blk_drewN ?_ _ | refine blk_drew ?_ | refine blk_alloc ?_ _)); exact BK303.out⟩, ⟨by repeat (first | (with_reducible first | exact HB.out | apply below_alloc | apply pw_below_drewN | apply below_drew1 | refine below_set ?_ GE303.out) | exact HB.out)⟩⟩
        ·replace c13 := Bool.eq_false_iff.mpr c13
         subst c13
         have H1 : (some (([] : List Int), false, 1)) = some (r1, r2, r3) := by rw [if_neg (show ¬ (false = true) by decide)] at H; exact H
         clear H
         have H := H1
         clear H1
         simp only [Option.some.injEq, Prod.mk.injEq] at H
         obtain ⟨rfl, rfl, rfl⟩ := H
         try go_wp2
         have n0_ := Aside0.mk (blk_drew BK303.out)
         have n1_ := Aside0.mk (below_drew1 HB.out)
         clear BK303
         clear HB
         have BK303 := n0_
         have HB := n1_
         clear n0_ n1_
         obtain ⟨i018, hi018, _, hsz18, _⟩ := info_parts info3
         obtain ⟨A18, hcut18, hA18, hC18⟩ := print_mid_of (P := Tryz.prog) (Value.int .i64) 0 25 3 .i64 .i64 Tryz.underlying25 hi018 hsz18 A1 c1 l1 x7_1 (wrap64 (x7_1 + 1)) (of_decide_eq_true (by first | (with_reducible assumption) | assumption)) (by first | omega | exact of_decide_eq_true (by first | (with_reducible assumption) | assumption)) (of_decide_eq_true (by first | (with_reducible assumption) | assumption)) HC1.out
         have HR305 := Aside0.mk (Kd.C_of_reads (h1 := fun _ => rfl) (hA18 _ (Kd.reads_of_C HR1.out)))
         have HC305 := Aside0.mk hC18
         clear hA18 hC18 hi018 hsz18
         refine start_ (n := 9) (S := fun w' => w'.cell? ⟨gb303, 0, none⟩ = some (.int .i64 a0_0) ∧ w'.cell? ⟨gb303, 1, none⟩ = some (.slice A0_1 l0_1.length c0_1)) (ds := []) #[false, false, false, false, false, false, false, false, false] (by kernel_rfl) rfl rfl ⟨(blk_cell BK303.out 0).trans rfl, (blk_cell BK303.out 1).trans rfl⟩ (fun hHeld => ?_); refine with_tabW assessorref26_Propagate.tab6 assessorref26_Propagate.bits6 (fun HT_ HW_ => ?_)
         generalize wr.drew = w17 at BK303 HB HR305 hHeld ⊢
         refine pure_ (i := 0) (N := some 21) (v := ?_) (a' := ?_) #[true, false, false, false, false, false, false, false, false] rfl rfl (any_of HT_.out (by kernel_rfl)) (fun _ _ _ h => h) (Or.inl ⟨by rfl, ?_⟩) ?_ ?_
         rotate_left
         ·intro w'
          go_simp
          with_reducible rfl
         rotate_left
         ·simp only [Act.put, sA, sZ, sS, i64_w, i32_w]
          rfl
         refine pure_ (i := 1) (N := some 22) (v := ?_) (a' := ?_) #[true, true, false, false, false, false, false, false, false] rfl rfl (any_of HT_.out (by kernel_rfl)) (fun _ _ _ h => h) (Or.inl ⟨by rfl, ?_⟩) ?_ ?_
         rotate_left
         ·intro w'
          go_simp
          with_reducible rfl
         rotate_left
         ·simp only [Act.put, sA, sZ, sS, i64_w, i32_w]
          rfl
         refine pure_ (i := 2) (N := some 23) (v := ?_) (a' := ?_) #[true, true, true, false, false, false, false, false, false] rfl rfl (any_of HT_.out (by kernel_rfl)) (fun _ _ _ h => h) (Or.inl ⟨by rfl, ?_⟩) ?_ ?_
         rotate_left
         ·intro w'
          go_simp
          with_reducible rfl
         rotate_left
         ·simp only [Act.put, sA, sZ, sS, i64_w, i32_w]
          rfl
         refine pure_ (i := 3) (N := some 24) (v := ?_) (a' := ?_) #[true, true, true, true, false, false, false, false, false] rfl rfl (any_of HT_.out (by kernel_rfl)) (fun _ _ _ h => h) (Or.inl ⟨by rfl, ?_⟩) ?_ ?_
         rotate_left
         ·intro w'
          go_simp
          with_reducible rfl
         rotate_left
         ·simp only [Act.put, sA, sZ, sS, i64_w, i32_w]
          rfl
         refine pure_ (i := 4) (N := some 25) (v := ?_) (a' := ?_) #[true, true, true, true, true, false, false, false, false] rfl rfl (any_of HT_.out (by kernel_rfl)) (fun _ _ _ h => h) (Or.inl ⟨by rfl, ?_⟩) ?_ ?_
         rotate_left
         ·intro w'
          go_simp
          with_reducible rfl
         rotate_left
         ·simp only [Act.put, sA, sZ, sS, i64_w, i32_w]
          rfl
         refine pure_ (i := 5) (N := some 26) (v := ?_) (a' := ?_) #[true, true, true, true, true, true, false, false, false] rfl rfl (any_of HT_.out (by kernel_rfl)) (fun _ _ _ h => h) (Or.inl ⟨by rfl, ?_⟩) ?_ ?_
         rotate_left
         ·intro w'
          go_simp
          with_reducible rfl
         rotate_left
         ·simp only [Act.put, sA, sZ, sS, i64_w, i32_w]
          rfl
         refine take_ (i := 6) (N := some 27) (v := ?_) (a' := ?_) #[true, true, true, true, true, true, true, false, false] rfl rfl (take_ofW HT_.out HW_.out (by kernel_rfl)) (fun _ _ _ h => h) (Or.inl ⟨by rfl, ?_⟩) hHeld ?_ ?_
         rotate_left
         ·rintro w' ⟨s0, s1⟩
          go_simp
          with_reducible rfl
         rotate_left
         ·simp only [Act.put, sA, sZ, sS, i64_w, i32_w]
          rfl
         refine one_ (i := 7) (N := some 28) #[true, true, true, true, true, true, true, true, false] rfl rfl (one_of HT_.out (by kernel_rfl)) (by decide) (fun K hK => ?_)
         refine goes_ Tryz.func30 (by kernel_rfl) rfl #[.slice A18 ((l1.take ((wrap64 (x7_1 + 1)) : Int).toNat).drop (x7_1 : Int).toNat).length (c1 - x7_1.toNat), .int .i64 a0_0] (by rfl) rfl rfl (by (try simp only [List.map_toArray, List.map_cons, List.map_nil]); first | done | (rw [show ((l1.take ((wrap64 (x7_1 + 1)) : Int).toNat).drop (x7_1 : Int).toNat).length = ((wrap64 (x7_1 + 1)).toNat - x7_1.toNat) from (by rw [List.length_drop, List.length_take]; have h_ : ((wrap64 (x7_1 + 1)) : Int) ≤ (l1.length : Int) := of_decide_eq_true (by first | (with_reducible assumption) | assumption); omega)] <;> rfl) | rfl | (simp only [List.length_drop, List.length_take]; rfl)) ?_
         with_reducible refine (assessorref26_IsClause.calls k1 _ _ ((l1.take ((wrap64 (x7_1 + 1)) : Int).toNat).drop (x7_1 : Int).toNat) a0_0 false _ ?side1 ?side2 A12.out).mono ?_
         (case side1 => repeat (first | exact (Kd.C_below HR305.out HB.out) | (with_reducible refine Kd.C_alloc ?_ _) | (with_reducible refine Kd.C_drewN ?_ _) | (with_reducible refine Kd.C_drew ?_)))
         (case side2 => exact HC305.out)
         rintro e w19 ⟨rfl, hb⟩
         refine ⟨_, rfl, ?_⟩
         have n0_ := Aside0.mk (blk_below (g := gb303) (o := .cells #[.int .i64 a0_0, .slice A0_1 l0_1.length c0_1] 24 (0, 0)) (by (with_reducible repeat (first | refine blk_drewN ?_ _ | refine blk_drew ?_ | refine blk_alloc ?_ _)); exact BK303.out) hb)
         have n1_ := Aside0.mk (below_step (by repeat (first | (with_reducible first | exact HB.out | apply below_alloc | apply pw_below_drewN | apply below_drew1 | refine below_set ?_ GE303.out) | exact HB.out)) hb)
         clear BK303
         clear HB
         have BK303 := n0_
         have HB := n1_
         clear n0_ n1_
         (try clear hb)
         (try clear hb2)
         (try clear hk)
         (try clear hi)
         refine hK.out _ _ ⟨(blk_cell BK303.out 0).trans rfl, (blk_cell BK303.out 1).trans rfl⟩ (fun hHeld => ?_)
         clear hK K
         refine norm_ (a' := ?_) ?_ ?_
         rotate_left
         ·show Act.put _ (some 28) _ = _
          simp only [Act.put, sA, sZ, sS, i64_w, i32_w]
          rfl
         refine pure_ (i := 8) (N := some 29) (v := ?_) (a' := ?_) #[true, true, true, true, true, true, true, true, true] rfl rfl (any_of HT_.out (by kernel_rfl)) (fun _ _ _ h => h) (Or.inl ⟨by rfl, ?_⟩) ?_ ?_
         rotate_left
         ·intro w'
          go_simp
          with_reducible rfl
         rotate_left
         ·simp only [Act.put, sA, sZ, sS, i64_w, i32_w]
          rfl
         refine done_ (done_of HT_.out (by kernel_rfl)) ?_
         try go_wp2
         go_ret3
         exact ⟨_, by first | rfl | (simp [errW_none, errW_some] <;> rfl) | (simp [*, errW_none, errW_some] <;> rfl), by first | exact Kd.R_nil _ _ _ _ _ | exact Kd.N_nil _ _ _ _ _ | exact Kd.V_nil _ _ _ _ _ | exact Kd.Q_nil _ _ _ _ _ | exact Kd.S_nil _ _ _ _ _, by repeat (first | (with_reducible first | exact HB.out | apply below_alloc | apply pw_below_drewN | apply below_drew1 | refine below_set ?_ GE303.out) | exact HB.out)⟩
       ·rw [if_neg c11] at H
        exact absurd H (by simp)
      ·rw [if_neg c10] at H
       exact absurd H (by simp)
     ·rw [if_neg c9] at H
      exact absurd H (by simp)
    ·rw [if_neg c8] at H
     have c8b0 : decide (x7_1 < (l1.length : Int)) = false := decide_eq_false c8
     clear c8
     replace H := Option.bind_eq_some_iff.mp H
     obtain ⟨⟨t307, t310⟩, A200, H⟩ := H
     replace H : (if t310 = true then (assessorref26_Propagate.l1 k1 t307 (([] : List Int)) 1 a0_0 l0_1) else (some (([] : List Int), false, 0))) = some (r1, r2, r3) := H
     have A20 := Aside0.mk A200
     clear A200
     by_cases c21 : t310 = true
     ·subst c21
      have H1 : (assessorref26_Propagate.l1 k1 t307 (([] : List Int)) 1 a0_0 l0_1) = some (r1, r2, r3) := by rw [if_pos rfl] at H; exact H
      clear H
      have H := H1
      clear H1
      obtain ⟨y311, hy311⟩ : ∃ y_ : List Int, y_ = (([] : List Int)) := ⟨_, rfl⟩
      replace H : (assessorref26_Propagate.l1 k1 t307 y311 1 a0_0 l0_1) = some (r1, r2, r3) := by first | (rw [hy311]; with_reducible exact H) | (have H2_ := (Option.bind_some _ _).symm.trans H; rw [hy311]; with_reducible exact H2_) | (have H2_ := (Option.bind_some _ _).symm.trans H; with_reducible exact H2_) | with_reducible exact H | (rw [hy311]; exact H) | exact H
      have Ny311 := Aside0.mk hy311
      clear hy311
      have H' := Aside0.mk H
      clear H
      have hcz22_0 : wr.cell? ⟨gb303, 0, none⟩ = some (.int .i64 a0_0) := (blk_cell BK303.out 0).trans rfl
      have hcz22_1 : wr.cell? ⟨gb303, 1, none⟩ = some (.slice A0_1 l0_1.length c0_1) := (blk_cell BK303.out 1).trans rfl
      have hfz22_0 := blk_frozen BK303.out 0
      have hfz22_1 := blk_frozen BK303.out 1
      go_wp2_with (first | ((with_reducible refine gate_callee (f := 60) rfl ?_); refine goesL_ (some 33) rfl rfl Tryz.func60 (by kernel_rfl) rfl #[.agg #[.int .i64 a0_0, .slice A0_1 l0_1.length c0_1], .slice A1 l1.length c1] rfl (by (try simp only [List.map_toArray, List.map_cons, List.map_nil]); first | done | rfl | (simp only [List.length_drop, List.length_take]; rfl)) ?_; (with_reducible refine (assessorref26_Closure.calls k1 a0_0 _ _ l0_1 _ _ l1 t307 true _ ?side1 ?side2 ?side3 ?side4 A20.out).mono ?_); (case side1 => repeat (first | exact (Kd.C_below HR0_1.out HB.out) | (with_reducible refine Kd.C_alloc ?_ _) | (with_reducible refine Kd.C_drewN ?_ _) | (with_reducible refine Kd.C_drew ?_))); (case side2 => exact HC0_1.out); (case side3 => repeat (first | exact (Kd.C_below HR1.out HB.out) | (with_reducible refine Kd.C_alloc ?_ _) | (with_reducible refine Kd.C_drewN ?_ _) | (with_reducible refine Kd.C_drew ?_))); (case side4 => exact HC1.out); rintro e w23 ⟨v308, rfl, ho0, hb⟩; refine ⟨_, rfl, ?_⟩; have n0_ := Aside0.mk (Kd.R_lower ho0 (below_size (by repeat (first | (with_reducible first | exact HB.out | apply below_alloc | apply pw_below_drewN | apply below_drew1 | refine below_set ?_ GE303.out) | exact HB.out)))); have n1_ := Aside0.mk (blk_below (g := gb303) (o := .cells #[.int .i64 a0_0, .slice A0_1 l0_1.length c0_1] 24 (0, 0)) (by (with_reducible repeat (first | refine blk_drewN ?_ _ | refine blk_drew ?_ | refine blk_alloc ?_ _)); exact BK303.out) hb); have n2_ := Aside0.mk (below_step (by repeat (first | (with_reducible first | exact HB.out | apply below_alloc | apply pw_below_drewN | apply below_drew1 | refine below_set ?_ GE303.out) | exact HB.out)) hb); clear BK303; clear HB; have HO309 := n0_; have BK303 := n1_; have HB := n2_; clear n0_ n1_ n2_; (try clear hb); (try clear hb2); (try clear hk); (try clear hi); (try clear ho0)) | ((with_reducible refine gate_dst (N := 38) rfl ?_); refine Kd.R_lit (Kd.int .i64) _ 3 ?hg (N := 38) ?hd (xs := ([] : List Int)) (inner := []) (ok := fun _ => True) (okp := fun _ => True) ?hr ?hp (fun _ hk => hk) trivial (Below.refl _ _) (Nat.le_refl _) (by simp) ?_; (case hd => rfl); (case hg => rfl); (case hr => first | (go_simp; done) | (go_simp; rfl)); (case hp => exact (Reps.none _ _)); intro v312 w24 ho25 hb hg_ hnew_; clear hg_ hnew_; (first | rw [← Ny311.out] at ho25 | (simp only [Int.reduceToNat] at ho25; rw [← Ny311.out] at ho25)); have n0_ := Aside0.mk (Kd.R_elder' (by (with_reducible repeat (first | apply Kd.R_alloc | apply Kd.R_drewN | apply Kd.R_drew)); exact HO309.out) (Kd.R_base ho25) hb); have n1_ := Aside0.mk (Kd.R_lower (Kd.R_new' ho25 (Kd.R_lt (by (with_reducible repeat (first | apply Kd.R_alloc | apply Kd.R_drewN | apply Kd.R_drew)); exact HO309.out))) (below_size (by repeat (first | (with_reducible first | exact HB.out | apply below_alloc | apply pw_below_drewN | apply below_drew1 | refine below_set ?_ GE303.out) | exact HB.out)))); have n2_ := Aside0.mk (blk_below (g := gb303) (o := .cells #[.int .i64 a0_0, .slice A0_1 l0_1.length c0_1] 24 (0, 0)) (by (with_reducible repeat (first | refine blk_drewN ?_ _ | refine blk_drew ?_ | refine blk_alloc ?_ _)); exact BK303.out) hb); have n3_ := Aside0.mk (below_step (by repeat (first | (with_reducible first | exact HB.out | apply below_alloc | apply pw_below_drewN | apply below_drew1 | refine below_set ?_ GE303.out) | exact HB.out)) hb); clear HO309; clear BK303; clear HB; have HO309 := n0_; have HO313 := n1_; have BK303 := n2_; have HB := n3_; clear n0_ n1_ n2_ n3_; clear hb ho25))
      go_loopg [10, 11] k1 (fun kq v10 v11 w' => ∃ (x10_2 : List Int) (x11_2 : Int), v11 = .int .i64 x11_2 ∧ Aside0 (assessorref26_Propagate.l1 kq t307 x10_2 x11_2 a0_0 l0_1 = some (r1, r2, r3)) ∧ Aside0 (kq ≤ k1) ∧ Aside0 (Kd.R (Kd.int .i64) 3 w' w.heap.size (fun k_ => some k_ ≠ (v10 : Value).ownBlock) v308 t307) ∧ Aside0 (Kd.R (Kd.int .i64) 3 w' w.heap.size (fun k_ => some k_ ≠ (v308 : Value).ownBlock) v10 x10_2) ∧ Aside0 (w'.heap[gb303]? = some (.cells #[.int .i64 a0_0, (.slice A0_1 l0_1.length c0_1)] 24 (0, 0))) ∧ Aside0 (Below w.heap.size w w'))
      case atStart => exact ⟨(y311), (1), (by first | rfl | (simp; done) | (simp [*]; done)), H', ⟨Nat.le_refl _⟩, ⟨by (with_reducible repeat (first | apply Kd.R_alloc | apply Kd.R_drewN | apply Kd.R_drew)); exact Kd.R_mono HO309.out (fun _ hk => hk.2)⟩, ⟨by (with_reducible repeat (first | apply Kd.R_alloc | apply Kd.R_drewN | apply Kd.R_drew)); exact Kd.R_mono HO313.out (fun _ hk => hk.2)⟩, ⟨by (with_reducible repeat (first | refine blk_drewN ?_ _ | refine blk_drew ?_ | refine blk_alloc ?_ _)); exact BK303.out⟩, ⟨by repeat (first | (with_reducible first | exact HB.out | apply below_alloc | apply pw_below_drewN | apply below_drew1 | refine below_set ?_ GE303.out) | exact HB.out)⟩⟩
      case round =>
       clear H'
       try clear c1
       try clear c2
       try clear p2
       try clear c3
       try clear c4
       try clear c6
       try clear p6
       try clear c8
       try clear c8b0
       try clear c9
       try clear c9b0
       try clear c9b1
       try clear c10
       try clear c10b0
       try clear c10b1
       try clear c11
       try clear c11b0
       try clear c11b1
       try clear c13
       try clear c16
       try clear c21
       try clear c25
       try clear hcz22_0
       try clear hcz22_1
       try clear hcz6_0
       try clear hcz6_1
       try clear hfz22_0
       try clear hfz22_1
       try clear hfz6_0
       try clear hfz6_1
       try clear p2
       obtain ⟨x10_2, x11_2, rfl, HA, HK2, HO_8, HO_10, BK303, HB⟩ := hrel
       cases gk with
       | zero => exact absurd HA.out (by simp [assessorref26_Propagate.l1])
       | succ k2 =>
        have H := HA.out
        clear HA
        simp only [assessorref26_Propagate.l1] at H
        by_cases c26 : x11_2 ≤ a0_0
        ·rw [if_pos c26] at H
         have c26b0 : decide (x11_2 ≤ a0_0) = true := decide_eq_true c26
         clear c26
         by_cases c27 : 0 ≤ x11_2
         ·rw [if_pos c27] at H
          have c27b0 : decide (0 ≤ x11_2) = true := decide_eq_true c27
          clear c27
          by_cases c28 : x11_2 < (t307.length : Int)
          ·rw [if_pos c28] at H
           have c28b0 : decide (x11_2 < (t307.length : Int)) = true := decide_eq_true c28
           clear c28
           by_cases c29 : (rd t307 x11_2) = 0
           ·rw [if_pos c29] at H
            have c29b0 : ((rd t307 x11_2) == 0) = true := beq_iff_eq.mpr c29
            have c29b1 : ((rd t307 x11_2) != 0) = false := bne_eq_false_iff_eq.mpr c29
            clear c29
            have H' := Aside0.mk H
            clear H
            have hcz30_0 : wr.cell? ⟨gb303, 0, none⟩ = some (.int .i64 a0_0) := (blk_cell BK303.out 0).trans rfl
            have hcz30_1 : wr.cell? ⟨gb303, 1, none⟩ = some (.slice A0_1 l0_1.length c0_1) := (blk_cell BK303.out 1).trans rfl
            have hfz30_0 := blk_frozen BK303.out 0
            have hfz30_1 := blk_frozen BK303.out 1
            obtain ⟨Ao31, co31, eo31⟩ := Kd.R_slice HO_8.out
            subst eo31
            have p314 : 0 ≤ (x11_2 : Int) := of_decide_eq_true (by first | (with_reducible assumption) | assumption)
            have q314 : x11_2 < (t307.length : Int) := of_decide_eq_true (by first | (with_reducible assumption) | assumption)
            obtain ⟨ad314, e314, hx314_0⟩ := Kd.at_int (Kd.R_reads' HO_8.out).2.2 x11_2 p314 q314
            cases e314
            replace p314 := eq_true p314
            replace q314 := eq_true q314
            go_wp2
            go_roundg k2
            case measure => have := HK1.out; have := HK2.out; omega
            case rel => exact ⟨(x10_2), (wrap64 (x11_2 + 1)), (by first | rfl | (simp; done) | (simp [*]; done)), H', ⟨by have := HK1.out; have := HK2.out; omega⟩, ⟨by (with_reducible repeat (first | apply Kd.R_alloc | apply Kd.R_drewN | apply Kd.R_drew)); exact HO_8.out⟩, ⟨by (with_reducible repeat (first | apply Kd.R_alloc | apply Kd.R_drewN | apply Kd.R_drew)); exact HO_10.out⟩, ⟨by (with_reducible repeat (first | refine blk_drewN ?_ _ | refine blk_drew ?_ | refine blk_alloc ?_ _)); exact BK303.out⟩, ⟨by repeat (first | (with_reducible first | exact HB.out | apply below_alloc | apply pw_below_drewN | apply below_drew1 | refine below_set ?_ GE303.out) | exact HB.out)⟩⟩
           ·rw [if_neg c29] at H
            have c29b0 : ((rd t307 x11_2) == 0) = false := beq_eq_false_iff_ne.mpr c29
            have c29b1 : ((rd t307 x11_2) != 0) = true := bne_iff_ne.mpr c29
            by_cases c32 : x10_2.length < 17592186044416
            ·rw [if_pos c32] at H
             have LMc32 := Aside0.mk c32
             clear c32
             obtain ⟨y316, hy316⟩ : ∃ y_ : List Int, y_ = (x10_2 ++ [rd t307 x11_2]) := ⟨_, rfl⟩
             replace H : (assessorref26_Propagate.l1 k2 t307 y316 (wrap64 (x11_2 + 1)) a0_0 l0_1) = some (r1, r2, r3) := by first | (rw [hy316]; with_reducible exact H) | (have H2_ := (Option.bind_some _ _).symm.trans H; rw [hy316]; with_reducible exact H2_) | (have H2_ := (Option.bind_some _ _).symm.trans H; with_reducible exact H2_) | with_reducible exact H | (rw [hy316]; exact H) | exact H
             have Ny316 := Aside0.mk hy316
             clear hy316
             have H' := Aside0.mk H
             clear H
             have hcz33_0 : wr.cell? ⟨gb303, 0, none⟩ = some (.int .i64 a0_0) := (blk_cell BK303.out 0).trans rfl
             have hcz33_1 : wr.cell? ⟨gb303, 1, none⟩ = some (.slice A0_1 l0_1.length c0_1) := (blk_cell BK303.out 1).trans rfl
             have hfz33_0 := blk_frozen BK303.out 0
             have hfz33_1 := blk_frozen BK303.out 1
             obtain ⟨Ao34, co34, eo34⟩ := Kd.R_slice HO_8.out
             subst eo34
             have p314 : 0 ≤ (x11_2 : Int) := of_decide_eq_true (by first | (with_reducible assumption) | assumption)
             have q314 : x11_2 < (t307.length : Int) := of_decide_eq_true (by first | (with_reducible assumption) | assumption)
             obtain ⟨ad314, e314, hx314_0⟩ := Kd.at_int (Kd.R_reads' HO_8.out).2.2 x11_2 p314 q314
             cases e314
             replace p314 := eq_true p314
             replace q314 := eq_true q314
             have p315 : 0 ≤ (x11_2 : Int) := of_decide_eq_true (by first | (with_reducible assumption) | assumption)
             have q315 : x11_2 < (t307.length : Int) := of_decide_eq_true (by first | (with_reducible assumption) | assumption)
             obtain ⟨ad315, e315, hx315_0⟩ := Kd.at_int (Kd.R_reads' HO_8.out).2.2 x11_2 p315 q315
             obtain rfl : ad314 = ad315 := (by injection e315)
             replace p315 := eq_true p315
             replace q315 := eq_true q315
             go_wp2_with (first | ((with_reducible refine gate_builtin (b := .append) (xs := #[.tmp 50, .tmp 55]) rfl ?_); at_builtin; refine Kd.R_append (Kd.int .i64) (w0 := w) w.heap.size rfl (.tmp 50) (.tmp 55) 25 3 (.int .i64 0) 8 rfl Tryz.underlying25 info3 rfl (by decide) (by omega) u10 x10_2 (rd t307 x11_2) [.int .i64 (rd t307 x11_2)] (fun k_ => some k_ ≠ (.slice (some ad314) t307.length co34 : Value).ownBlock) (fun _ => False) rfl rfl ?aP (fun _ hk => hk.elim) ?aF ?aO ?aB ?aS ?aL ?_; (case aP => exact rfl); (case aB => exact (by repeat (first | (with_reducible first | exact HB.out | apply below_alloc | apply pw_below_drewN | apply below_drew1 | refine below_set ?_ GE303.out) | exact HB.out))); (case aF => exact (fun k_ hk => Kd.fresh' (Kd.R_lt (by (with_reducible repeat (first | apply Kd.R_alloc | apply Kd.R_drewN | apply Kd.R_drew)); exact HO_8.out)) k_ hk)); (case aO => exact (by (with_reducible repeat (first | apply Kd.R_alloc | apply Kd.R_drewN | apply Kd.R_drew)); exact HO_10.out)); (case aS => exact (below_size (by repeat (first | (with_reducible first | exact HB.out | apply below_alloc | apply pw_below_drewN | apply below_drew1 | refine below_set ?_ GE303.out) | exact HB.out)))); (case aL => have := LMc32.out; omega); intro v317 w35 ho hb hg hat; rw [← Ny316.out] at ho; have n0_ := Aside0.mk (Kd.R_after (ok := (fun _ => True)) (by (with_reducible repeat (first | apply Kd.R_alloc | apply Kd.R_drewN | apply Kd.R_drew)); exact Kd.R_mono HO_8.out (fun _ hk => ⟨trivial, hk⟩)) hg hat); have n1_ := Aside0.mk (blk_grown (g := gb303) (o := .cells #[.int .i64 a0_0, .slice A0_1 l0_1.length c0_1] 24 (0, 0)) (by (with_reducible repeat (first | refine blk_drewN ?_ _ | refine blk_drew ?_ | refine blk_alloc ?_ _)); exact BK303.out) hg (Kd.R_ne HO_10.out BK303.out (by decide))); have n2_ := Aside0.mk (hb); have n3_ := Aside0.mk (ho); clear HO_8; clear BK303; clear HB; clear HO_10; have HO_8 := n0_; have BK303 := n1_; have HB := n2_; have HO318 := n3_; clear n0_ n1_ n2_ n3_; clear ho hb hg hat))
             go_roundg k2
             case measure => have := HK1.out; have := HK2.out; omega
             case rel => exact ⟨(y316), (wrap64 (x11_2 + 1)), (by first | rfl | (simp; done) | (simp [*]; done)), H', ⟨by have := HK1.out; have := HK2.out; omega⟩, ⟨by (with_reducible repeat (first | apply Kd.R_alloc | apply Kd.R_drewN | apply Kd.R_drew)); exact Kd.R_mono HO_8.out (fun _ hk => hk.2)⟩, ⟨by (with_reducible repeat (first | apply Kd.R_alloc | apply Kd.R_drewN | apply Kd.R_drew)); exact HO318.out⟩, ⟨by (with_reducible repeat (first | refine blk_drewN ?_ _ | refine blk_drew ?_ | refine blk_alloc ?_ _)); exact BK303.out⟩, ⟨by repeat (first | (with_reducible first | exact HB.out | apply below_alloc | apply pw_below_drewN | apply below_drew1 | refine below_set ?_ GE303.out) | exact HB.out)⟩⟩
            ·rw [if_neg c32] at H
             exact absurd H (by simp)
          ·rw [if_neg c28] at H
           exact absurd H (by simp)
         ·rw [if_neg c27] at H
          exact absurd H (by simp)
        ·rw [if_neg c26] at H
         have c26b0 : decide (x11_2 ≤ a0_0) = false := decide_eq_false c26
         clear c26
         simp only [Option.some.injEq, Prod.mk.injEq] at H
         obtain ⟨rfl, rfl, rfl⟩ := H
         have hcz36_0 : wr.cell? ⟨gb303, 0, none⟩ = some (.int .i64 a0_0) := (blk_cell BK303.out 0).trans rfl
         have hcz36_1 : wr.cell? ⟨gb303, 1, none⟩ = some (.slice A0_1 l0_1.length c0_1) := (blk_cell BK303.out 1).trans rfl
         have hfz36_0 := blk_frozen BK303.out 0
         have hfz36_1 := blk_frozen BK303.out 1
         go_wp2
         go_ret3
         exact ⟨_, by first | rfl | (simp [errW_none, errW_some] <;> rfl) | (simp [*, errW_none, errW_some] <;> rfl), by (with_reducible repeat (first | apply Kd.R_alloc | apply Kd.R_drewN | apply Kd.R_drew)); exact Kd.R_mono HO_10.out (fun _ hk => trivial), by repeat (first | (with_reducible first | exact HB.out | apply below_alloc | apply pw_below_drewN | apply below_drew1 | refine below_set ?_ GE303.out) | exact HB.out)⟩
     ·replace c21 := Bool.eq_false_iff.mpr c21
      subst c21
      have H1 : (some (([] : List Int), false, 0)) = some (r1, r2, r3) := by rw [if_neg (show ¬ (false = true) by decide)] at H; exact H
      clear H
      have H := H1
      clear H1
      simp only [Option.some.injEq, Prod.mk.injEq] at H
      obtain ⟨rfl, rfl, rfl⟩ := H
      have hcz37_0 : wr.cell? ⟨gb303, 0, none⟩ = some (.int .i64 a0_0) := (blk_cell BK303.out 0).trans rfl
      have hcz37_1 : wr.cell? ⟨gb303, 1, none⟩ = some (.slice A0_1 l0_1.length c0_1) := (blk_cell BK303.out 1).trans rfl
      have hfz37_0 := blk_frozen BK303.out 0
      have hfz37_1 := blk_frozen BK303.out 1
      go_wp2_with (first | ((with_reducible refine gate_callee (f := 60) rfl ?_); refine goesL_ (some 33) rfl rfl Tryz.func60 (by kernel_rfl) rfl #[.agg #[.int .i64 a0_0, .slice A0_1 l0_1.length c0_1], .slice A1 l1.length c1] rfl (by (try simp only [List.map_toArray, List.map_cons, List.map_nil]); first | done | rfl | (simp only [List.length_drop, List.length_take]; rfl)) ?_; (with_reducible refine (assessorref26_Closure.calls k1 a0_0 _ _ l0_1 _ _ l1 t307 false _ ?side1 ?side2 ?side3 ?side4 A20.out).mono ?_); (case side1 => repeat (first | exact (Kd.C_below HR0_1.out HB.out) | (with_reducible refine Kd.C_alloc ?_ _) | (with_reducible refine Kd.C_drewN ?_ _) | (with_reducible refine Kd.C_drew ?_))); (case side2 => exact HC0_1.out); (case side3 => repeat (first | exact (Kd.C_below HR1.out HB.out) | (with_reducible refine Kd.C_alloc ?_ _) | (with_reducible refine Kd.C_drewN ?_ _) | (with_reducible refine Kd.C_drew ?_))); (case side4 => exact HC1.out); rintro e w38 ⟨v308, rfl, ho0, hb⟩; refine ⟨_, rfl, ?_⟩; have n0_ := Aside0.mk (Kd.R_lower ho0 (below_size (by repeat (first | (with_reducible first | exact HB.out | apply below_alloc | apply pw_below_drewN | apply below_drew1 | refine below_set ?_ GE303.out) | exact HB.out)))); have n1_ := Aside0.mk (blk_below (g := gb303) (o := .cells #[.int .i64 a0_0, .slice A0_1 l0_1.length c0_1] 24 (0, 0)) (by (with_reducible repeat (first | refine blk_drewN ?_ _ | refine blk_drew ?_ | refine blk_alloc ?_ _)); exact BK303.out) hb); have n2_ := Aside0.mk (below_step (by repeat (first | (with_reducible first | exact HB.out | apply below_alloc | apply pw_below_drewN | apply below_drew1 | refine below_set ?_ GE303.out) | exact HB.out)) hb); clear BK303; clear HB; have HO309 := n0_; have BK303 := n1_; have HB := n2_; clear n0_ n1_ n2_; (try clear hb); (try clear hb2); (try clear hk); (try clear hi); (try clear ho0)))
      go_ret3
      exact ⟨_, by first | rfl | (simp [errW_none, errW_some] <;> rfl) | (simp [*, errW_none, errW_some] <;> rfl), by first | exact Kd.R_nil _ _ _ _ _ | exact Kd.N_nil _ _ _ _ _ | exact Kd.V_nil _ _ _ _ _ | exact Kd.Q_nil _ _ _ _ _ | exact Kd.S_nil _ _ _ _ _, by repeat (first | (with_reducible first | exact HB.out | apply below_alloc | apply pw_below_drewN | apply below_drew1 | refine below_set ?_ GE303.out) | exact HB.out)⟩
 ·replace c4 := Bool.eq_false_iff.mpr c4
  subst c4
  have H1 : (some (([] : List Int), false, 1)) = some (r1, r2, r3) := by rw [if_neg (show ¬ (false = true) by decide)] at H; exact H
  clear H
  have H := H1
  clear H1
  simp only [Option.some.injEq, Prod.mk.injEq] at H
  obtain ⟨rfl, rfl, rfl⟩ := H
  go_enter Tryz.func25, Tryz.ntmps25
  go_wp2_with (first | ((with_reducible refine gate_dst (N := 2) rfl ?_); refine box_event ?hg (N := 2) ?hd (cs := #[.int .i64 a0_0, .slice A0_1 l0_1.length c0_1]) (t := 24) ?hr ?_; (case hd => rfl); (case hg => rfl); (case hr => first | (go_simp; done) | (go_simp; rfl)); intro gb303 hg w39 hbox hb; have n0_ := Aside0.mk (below_step (by repeat (first | (with_reducible first | exact HB.out | apply below_alloc | apply pw_below_drewN | apply below_drew1) | exact HB.out)) hb); have n1_ := Aside0.mk (hbox); have n2_ := Aside0.mk ((by rw [hg]; exact (below_size (by repeat (first | (with_reducible first | exact HB.out | apply below_alloc | apply pw_below_drewN | apply below_drew1) | exact HB.out))) : w.heap.size ≤ gb303)); have n3_ := Aside0.mk ((by rw [hg]; exact (below_size (by repeat (first | (with_reducible first | exact HB.out | apply below_alloc | apply pw_below_drewN | apply below_drew1) | exact HB.out))) : w.heap.size ≤ gb303)); clear HB; have HB := n0_; have BK303 := n1_; have GW303 := n2_; have GE303 := n3_; clear n0_ n1_ n2_ n3_; clear hb hbox hg; have hcz40_0 : w39.cell? ⟨gb303, 0, none⟩ = some (.int .i64 a0_0) := (blk_cell BK303.out 0).trans rfl; have hcz40_1 : w39.cell? ⟨gb303, 1, none⟩ = some (.slice A0_1 l0_1.length c0_1) := (blk_cell BK303.out 1).trans rfl; have hfz40_0 := blk_frozen BK303.out 0; have hfz40_1 := blk_frozen BK303.out 1) | ((with_reducible refine gate_callee (f := 16) rfl ?_); refine goesL_ (some 13) rfl rfl Tryz.func16 (by kernel_rfl) rfl #[.agg #[.int .i64 a0_0, .slice A0_1 l0_1.length c0_1]] rfl (by (try simp only [List.map_toArray, List.map_cons, List.map_nil]); first | done | rfl | (simp only [List.length_drop, List.length_take]; rfl)) ?_; (with_reducible refine (assessorref26_Valid.calls k a0_0 _ _ l0_1 false _ ?side1 ?side2 A3.out).mono ?_); (case side1 => repeat (first | exact (Kd.C_below HR0_1.out HB.out) | (with_reducible refine Kd.C_alloc ?_ _) | (with_reducible refine Kd.C_drewN ?_ _) | (with_reducible refine Kd.C_drew ?_))); (case side2 => exact HC0_1.out); rintro e w41 ⟨rfl, hb⟩; refine ⟨_, rfl, ?_⟩; have n0_ := Aside0.mk (blk_below (g := gb303) (o := .cells #[.int .i64 a0_0, .slice A0_1 l0_1.length c0_1] 24 (0, 0)) (by (with_reducible repeat (first | refine blk_drewN ?_ _ | refine blk_drew ?_ | refine blk_alloc ?_ _)); exact BK303.out) hb); have n1_ := Aside0.mk (below_step (by repeat (first | (with_reducible first | exact HB.out | apply below_alloc | apply pw_below_drewN | apply below_drew1 | refine below_set ?_ GE303.out) | exact HB.out)) hb); clear BK303; clear HB; have BK303 := n0_; have HB := n1_; clear n0_ n1_; (try clear hb); (try clear hb2); (try clear hk); (try clear hi)))
  go_ret3
  exact ⟨_, by first | rfl | (simp [errW_none, errW_some] <;> rfl) | (simp [*, errW_none, errW_some] <;> rfl), by first | exact Kd.R_nil _ _ _ _ _ | exact Kd.N_nil _ _ _ _ _ | exact Kd.V_nil _ _ _ _ _ | exact Kd.Q_nil _ _ _ _ _ | exact Kd.S_nil _ _ _ _ _, by repeat (first | (with_reducible first | exact HB.out | apply below_alloc | apply pw_below_drewN | apply below_drew1 | refine below_set ?_ GE303.out) | exact HB.out)⟩

-- NOT PRINTED: function 5 (assessorlaw26_CnfPropagates)

/-! ### assessorref26_Decimal: function 69 -/
mutual
def assessorref26_Decimal.j0 : Nat → Int → Int → Option (ByteArray)
 | 0, _, _ => none
 | k + 1, x0, x3 => if 0 ≤ x3 then (if x3 ≤ (wrap64 (x3 + 1)) then (if (wrap64 (x3 + 1)) ≤ 10 then (if x0 < 0 then (assessorref26_Decimal.j1 k x0 ((⟨#[48, 49, 50, 51, 52, 53, 54, 55, 56, 57]⟩ : ByteArray).extract (x3 : Int).toNat ((wrap64 (x3 + 1)) : Int).toNat) (decide (x0 > (-10)))) else (assessorref26_Decimal.j1 k x0 ((⟨#[48, 49, 50, 51, 52, 53, 54, 55, 56, 57]⟩ : ByteArray).extract (x3 : Int).toNat ((wrap64 (x3 + 1)) : Int).toNat) false)) else (none)) else (none)) else (none)
def assessorref26_Decimal.j1 : Nat → Int → ByteArray → Bool → Option (ByteArray)
 | 0, _, _, _ => none
 | k + 1, x0, x4, x20 => if x20 = true then (if 1 + x4.size ≤ 9223372036854775807 then (some ((⟨#[45]⟩ : ByteArray) ++ x4)) else (none)) else (if x0 ≥ 0 then (if x0 < 10 then (some x4) else ((assessorref26_Decimal.f k (wrap64 (Int.tdiv x0 10))).bind fun t320 => (if t320.size + x4.size ≤ 9223372036854775807 then (some (t320 ++ x4)) else (none)))) else ((assessorref26_Decimal.f k (wrap64 (Int.tdiv x0 10))).bind fun t321 => (if t321.size + x4.size ≤ 9223372036854775807 then (some (t321 ++ x4)) else (none))))
def assessorref26_Decimal.f : Nat → Int → Option (ByteArray)
 | 0, _ => none
 | k + 1, a0 => if a0 < 0 then (assessorref26_Decimal.j0 k a0 (wrap64 (-(Int.tmod a0 10)))) else (assessorref26_Decimal.j0 k a0 (Int.tmod a0 10))
end
theorem assessorref26_Decimal.mono_l : ∀ k, (∀ y0, LeO (assessorref26_Decimal.f k y0) (assessorref26_Decimal.f (k + 1) y0)) ∧ (∀ y0 y1, LeO (assessorref26_Decimal.j0 k y0 y1) (assessorref26_Decimal.j0 (k + 1) y0 y1)) ∧ (∀ y0 y1 y2, LeO (assessorref26_Decimal.j1 k y0 y1 y2) (assessorref26_Decimal.j1 (k + 1) y0 y1 y2))
 | 0 => ⟨fun _ r h => by simp [assessorref26_Decimal.f] at h, fun _ _ r h => by simp [assessorref26_Decimal.j0] at h, fun _ _ _ r h => by simp [assessorref26_Decimal.j1] at h⟩
 | k + 1 => by
  obtain ⟨ih0, ih1, ih2⟩ := assessorref26_Decimal.mono_l k
  refine ⟨?_, ?_, ?_⟩
  ·intro y0
   unfold assessorref26_Decimal.f
   repeat' first
   | (with_reducible exact ih0 _)
   | (with_reducible exact ih1 _ _)
   | (with_reducible exact ih2 _ _ _)
   | (with_reducible exact LeO.refl _)
   | (with_reducible exact LeO.none _)
   | (with_reducible refine LeO.ite ?_ ?_)
   | (with_reducible refine LeO.bind ?_ (fun _ => ?_))
   | exact ih0 _
   | exact ih1 _ _
   | exact ih2 _ _ _
   | exact LeO.none _
   | refine LeO.ite ?_ ?_
   | refine LeO.bind ?_ (fun _ => ?_)
  ·intro y0 y1
   unfold assessorref26_Decimal.j0
   repeat' first
   | (with_reducible exact ih0 _)
   | (with_reducible exact ih1 _ _)
   | (with_reducible exact ih2 _ _ _)
   | (with_reducible exact LeO.refl _)
   | (with_reducible exact LeO.none _)
   | (with_reducible refine LeO.ite ?_ ?_)
   | (with_reducible refine LeO.bind ?_ (fun _ => ?_))
   | exact ih0 _
   | exact ih1 _ _
   | exact ih2 _ _ _
   | exact LeO.none _
   | refine LeO.ite ?_ ?_
   | refine LeO.bind ?_ (fun _ => ?_)
  ·intro y0 y1 y2
   unfold assessorref26_Decimal.j1
   repeat' first
   | (with_reducible exact ih0 _)
   | (with_reducible exact ih1 _ _)
   | (with_reducible exact ih2 _ _ _)
   | (with_reducible exact LeO.refl _)
   | (with_reducible exact LeO.none _)
   | (with_reducible refine LeO.ite ?_ ?_)
   | (with_reducible refine LeO.bind ?_ (fun _ => ?_))
   | exact ih0 _
   | exact ih1 _ _
   | exact ih2 _ _ _
   | exact LeO.none _
   | refine LeO.ite ?_ ?_
   | refine LeO.bind ?_ (fun _ => ?_)
theorem assessorref26_Decimal.mono : ∀ a0 k, LeO (assessorref26_Decimal.f k a0) (assessorref26_Decimal.f (k + 1) a0) := by
 intro a0 k
 obtain ⟨ih0, ih1, ih2⟩ := assessorref26_Decimal.mono_l k
 exact ih0 a0
set_option maxHeartbeats 8000000 in
set_option maxRecDepth 100000 in
theorem assessorref26_Decimal.calls (k : Nat) : ∀ (a0 : Int) (r : ByteArray) (w : World) (h : assessorref26_Decimal.f k a0 = some r),
  Calls Tryz.prog 69 #[.int .i64 a0] w fun e w' => e = .returned (.string r) ∧ Drawn0 w w' := by
 induction k using Nat.strongRecOn with
 | _ k ih =>
 intro a0 r w h
 cases k with
 | zero => exact absurd h (by simp [assessorref26_Decimal.f])
 | succ k =>
 simp only [assessorref26_Decimal.f] at h
 have H : (if a0 < 0 then (assessorref26_Decimal.j0 k a0 (wrap64 (-(Int.tmod a0 10)))) else (assessorref26_Decimal.j0 k a0 (Int.tmod a0 10))) = some r := h
 clear h
 have HC2 := Aside0.mk H
 clear H
 go_enter Tryz.func69, Tryz.ntmps69
 go_upto_if 8 with (fail)
 go_cut [3] (fun v3 wc => ∃ (kq : Nat) (x3_1 : Int), v3 = .int .i64 x3_1 ∧ Aside0 (assessorref26_Decimal.j0 kq a0 x3_1 = some r) ∧ Aside0 (kq ≤ k) ∧ Drawn0 w wc)
 case first =>
  have H := HC2.out
  clear HC2
  by_cases c3 : a0 < 0
  ·rw [if_pos c3] at H
   have c3b0 : decide (a0 < 0) = true := decide_eq_true c3
   clear c3
   (first | rw [c3b0] | (simp only [i64_w, i32_w]; rw [c3b0]) | skip)
   have H' := Aside0.mk H
   clear H
   go_wp2
   go_meet
   case rel => exact ⟨_, (wrap64 (-(Int.tmod a0 10))), (by first | rfl | (simp; done) | (simp [*]; done)), H', ⟨by first | omega | exact Nat.le_refl _⟩, by repeat (first | exact Drawn0.refl _ | apply Drawn0.step)⟩
  ·rw [if_neg c3] at H
   have c3b0 : decide (a0 < 0) = false := decide_eq_false c3
   clear c3
   (first | rw [c3b0] | (simp only [i64_w, i32_w]; rw [c3b0]) | skip)
   have H' := Aside0.mk H
   clear H
   go_wp2
   go_meet
   case rel => exact ⟨_, (Int.tmod a0 10), (by first | rfl | (simp; done) | (simp [*]; done)), H', ⟨by first | omega | exact Nat.le_refl _⟩, by repeat (first | exact Drawn0.refl _ | apply Drawn0.step)⟩
 case rest =>
  clear HC2
  try clear p2
  try clear c3
  try clear c3b0
  obtain ⟨kq, x3_1, rfl, HA, HJ1, ⟨mc1, rfl⟩⟩ := hcut
  cases kq with
  | zero => exact absurd HA.out (by simp [assessorref26_Decimal.j0])
  | succ kj1 =>
   have H := HA.out
   clear HA
   simp only [assessorref26_Decimal.j0] at H
   by_cases c4 : 0 ≤ x3_1
   ·rw [if_pos c4] at H
    have c4b0 := eq_true c4
    have c4b1 : decide (0 ≤ x3_1) = true := decide_eq_true c4
    clear c4
    by_cases c5 : x3_1 ≤ (wrap64 (x3_1 + 1))
    ·rw [if_pos c5] at H
     have c5b0 := eq_true c5
     have c5b1 : decide (x3_1 ≤ (wrap64 (x3_1 + 1))) = true := decide_eq_true c5
     by_cases c6 : (wrap64 (x3_1 + 1)) ≤ 10
     ·rw [if_pos c6] at H
      have c6b0 := eq_true c6
      have c6b1 : decide ((wrap64 (x3_1 + 1)) ≤ 10) = true := decide_eq_true c6
      have HC7 := Aside0.mk H
      clear H
      go_upto_region 5 with (fail)
      go_cut [20] (fun v20 wc => ∃ (kq : Nat) (x20_6 : Bool), v20 = .bool x20_6 ∧ Aside0 (assessorref26_Decimal.j1 kq a0 ((⟨#[48, 49, 50, 51, 52, 53, 54, 55, 56, 57]⟩ : ByteArray).extract (x3_1 : Int).toNat ((wrap64 (x3_1 + 1)) : Int).toNat) x20_6 = some r) ∧ Aside0 (kq ≤ kj1) ∧ Drawn0 w wc)
      case first =>
       have H := HC7.out
       clear HC7
       by_cases c8 : a0 < 0
       ·rw [if_pos c8] at H
        have c8b0 : decide (a0 < 0) = true := decide_eq_true c8
        clear c8
        (first | rw [c8b0] | (simp only [i64_w, i32_w]; rw [c8b0]) | skip)
        have H' := Aside0.mk H
        clear H
        go_wp2
        go_meet
        case rel => exact ⟨_, (decide (a0 > (-10))), (by first | rfl | (simp; done) | (simp [*]; done)), H', ⟨by have := HJ1.out; first | omega | exact Nat.le_refl _⟩, by repeat (first | exact Drawn0.refl _ | apply Drawn0.step)⟩
       ·rw [if_neg c8] at H
        have c8b0 : decide (a0 < 0) = false := decide_eq_false c8
        clear c8
        (first | rw [c8b0] | (simp only [i64_w, i32_w]; rw [c8b0]) | skip)
        have H' := Aside0.mk H
        clear H
        go_wp2
        go_meet
        case rel => exact ⟨_, (false), (by first | rfl | (simp; done) | (simp [*]; done)), H', ⟨by have := HJ1.out; first | omega | exact Nat.le_refl _⟩, by repeat (first | exact Drawn0.refl _ | apply Drawn0.step)⟩
      case rest =>
       clear HC7
       try clear c1
       try clear p2
       try clear c3
       try clear c3b0
       try clear c4
       try clear c4b0
       try clear c4b1
       try clear c5
       try clear c5b0
       try clear c5b1
       try clear c6
       try clear c6b0
       try clear c6b1
       try clear p6
       try clear c8
       try clear c8b0
       try clear p2
       obtain ⟨kq, x20_6, rfl, HA, HJ6, ⟨mc6, rfl⟩⟩ := hcut
       cases kq with
       | zero => exact absurd HA.out (by simp [assessorref26_Decimal.j1])
       | succ kj6 =>
        have H := HA.out
        clear HA
        simp only [assessorref26_Decimal.j1] at H
        by_cases c9 : x20_6 = true
        ·subst c9
         have H1 : (if 1 + ((⟨#[48, 49, 50, 51, 52, 53, 54, 55, 56, 57]⟩ : ByteArray).extract (x3_1 : Int).toNat ((wrap64 (x3_1 + 1)) : Int).toNat).size ≤ 9223372036854775807 then (some ((⟨#[45]⟩ : ByteArray) ++ ((⟨#[48, 49, 50, 51, 52, 53, 54, 55, 56, 57]⟩ : ByteArray).extract (x3_1 : Int).toNat ((wrap64 (x3_1 + 1)) : Int).toNat))) else (none)) = some r := by rw [if_pos rfl] at H; exact H
         clear H
         have H := H1
         clear H1
         by_cases c10 : 1 + ((⟨#[48, 49, 50, 51, 52, 53, 54, 55, 56, 57]⟩ : ByteArray).extract (x3_1 : Int).toNat ((wrap64 (x3_1 + 1)) : Int).toNat).size ≤ 9223372036854775807
         ·rw [if_pos c10] at H
          have c10b0 := eq_true c10
          have c10b1 : decide (1 + ((⟨#[48, 49, 50, 51, 52, 53, 54, 55, 56, 57]⟩ : ByteArray).extract (x3_1 : Int).toNat ((wrap64 (x3_1 + 1)) : Int).toNat).size ≤ 9223372036854775807) = true := decide_eq_true c10
          try have c10b2 : (9223372036854775807 < 1 + ((⟨#[48, 49, 50, 51, 52, 53, 54, 55, 56, 57]⟩ : ByteArray).extract (x3_1 : Int).toNat ((wrap64 (x3_1 + 1)) : Int).toNat).size) = False := eq_false (Nat.not_lt.2 c10)
          obtain rfl := Option.some.inj H
          go_wp2
          go_ret
          exact ⟨by first | rfl | (simp; done) | (simp [*]; done), by repeat (first | exact Drawn0.refl _ | apply Drawn0.step)⟩
         ·rw [if_neg c10] at H
          exact absurd H (by simp)
        ·replace c9 := Bool.eq_false_iff.mpr c9
         subst c9
         have H1 : (if a0 ≥ 0 then (if a0 < 10 then (some ((⟨#[48, 49, 50, 51, 52, 53, 54, 55, 56, 57]⟩ : ByteArray).extract (x3_1 : Int).toNat ((wrap64 (x3_1 + 1)) : Int).toNat)) else ((assessorref26_Decimal.f kj6 (wrap64 (Int.tdiv a0 10))).bind fun t320 => (if t320.size + ((⟨#[48, 49, 50, 51, 52, 53, 54, 55, 56, 57]⟩ : ByteArray).extract (x3_1 : Int).toNat ((wrap64 (x3_1 + 1)) : Int).toNat).size ≤ 9223372036854775807 then (some (t320 ++ ((⟨#[48, 49, 50, 51, 52, 53, 54, 55, 56, 57]⟩ : ByteArray).extract (x3_1 : Int).toNat ((wrap64 (x3_1 + 1)) : Int).toNat))) else (none)))) else ((assessorref26_Decimal.f kj6 (wrap64 (Int.tdiv a0 10))).bind fun t321 => (if t321.size + ((⟨#[48, 49, 50, 51, 52, 53, 54, 55, 56, 57]⟩ : ByteArray).extract (x3_1 : Int).toNat ((wrap64 (x3_1 + 1)) : Int).toNat).size ≤ 9223372036854775807 then (some (t321 ++ ((⟨#[48, 49, 50, 51, 52, 53, 54, 55, 56, 57]⟩ : ByteArray).extract (x3_1 : Int).toNat ((wrap64 (x3_1 + 1)) : Int).toNat))) else (none)))) = some r := by rw [if_neg (show ¬ (false = true) by decide)] at H; exact H
         clear H
         have H := H1
         clear H1
         by_cases c11 : a0 ≥ 0
         ·rw [if_pos c11] at H
          have c11b0 : decide (0 ≤ a0) = true := decide_eq_true c11
          clear c11
          by_cases c12 : a0 < 10
          ·rw [if_pos c12] at H
           have c12b0 : decide (a0 < 10) = true := decide_eq_true c12
           clear c12
           obtain rfl := Option.some.inj H
           go_wp2
           go_ret
           exact ⟨by first | rfl | (simp; done) | (simp [*]; done), by repeat (first | exact Drawn0.refl _ | apply Drawn0.step)⟩
          ·rw [if_neg c12] at H
           have c12b0 : decide (a0 < 10) = false := decide_eq_false c12
           clear c12
           replace H := Option.bind_eq_some_iff.mp H
           obtain ⟨t320, A130, H⟩ := H
           replace H : (if t320.size + ((⟨#[48, 49, 50, 51, 52, 53, 54, 55, 56, 57]⟩ : ByteArray).extract (x3_1 : Int).toNat ((wrap64 (x3_1 + 1)) : Int).toNat).size ≤ 9223372036854775807 then (some (t320 ++ ((⟨#[48, 49, 50, 51, 52, 53, 54, 55, 56, 57]⟩ : ByteArray).extract (x3_1 : Int).toNat ((wrap64 (x3_1 + 1)) : Int).toNat))) else (none)) = some r := H
           have A13 := Aside0.mk A130
           clear A130
           by_cases c14 : t320.size + ((⟨#[48, 49, 50, 51, 52, 53, 54, 55, 56, 57]⟩ : ByteArray).extract (x3_1 : Int).toNat ((wrap64 (x3_1 + 1)) : Int).toNat).size ≤ 9223372036854775807
           ·rw [if_pos c14] at H
            have c14b0 := eq_true c14
            have c14b1 : decide (t320.size + ((⟨#[48, 49, 50, 51, 52, 53, 54, 55, 56, 57]⟩ : ByteArray).extract (x3_1 : Int).toNat ((wrap64 (x3_1 + 1)) : Int).toNat).size ≤ 9223372036854775807) = true := decide_eq_true c14
            try have c14b2 : (9223372036854775807 < t320.size + ((⟨#[48, 49, 50, 51, 52, 53, 54, 55, 56, 57]⟩ : ByteArray).extract (x3_1 : Int).toNat ((wrap64 (x3_1 + 1)) : Int).toNat).size) = False := eq_false (Nat.not_lt.2 c14)
            obtain rfl := Option.some.inj H
            go_wp2_with (first | ((with_reducible refine gate_callee (f := 69) rfl ?_); refine goesL_ (some 32) rfl rfl Tryz.func69 (by kernel_rfl) rfl #[.int .i64 (wrap64 (Int.tdiv a0 10))] rfl (by (try simp only [List.map_toArray, List.map_cons, List.map_nil]); first | done | rfl | (simp only [List.length_drop, List.length_take]; rfl)) ?_; (with_reducible refine (ih kj6 (by have := HJ1.out; have := HJ6.out; omega) (wrap64 (Int.tdiv a0 10)) t320 _ A13.out).mono ?_); rintro e w' ⟨rfl, ⟨nd, rfl⟩⟩; refine ⟨_, rfl, ?_⟩))
            go_ret
            exact ⟨by first | rfl | (simp; done) | (simp [*]; done), by repeat (first | exact Drawn0.refl _ | apply Drawn0.step)⟩
           ·rw [if_neg c14] at H
            exact absurd H (by simp)
         ·rw [if_neg c11] at H
          have c11b0 : decide (0 ≤ a0) = false := decide_eq_false c11
          clear c11
          replace H := Option.bind_eq_some_iff.mp H
          obtain ⟨t321, A150, H⟩ := H
          replace H : (if t321.size + ((⟨#[48, 49, 50, 51, 52, 53, 54, 55, 56, 57]⟩ : ByteArray).extract (x3_1 : Int).toNat ((wrap64 (x3_1 + 1)) : Int).toNat).size ≤ 9223372036854775807 then (some (t321 ++ ((⟨#[48, 49, 50, 51, 52, 53, 54, 55, 56, 57]⟩ : ByteArray).extract (x3_1 : Int).toNat ((wrap64 (x3_1 + 1)) : Int).toNat))) else (none)) = some r := H
          have A15 := Aside0.mk A150
          clear A150
          by_cases c16 : t321.size + ((⟨#[48, 49, 50, 51, 52, 53, 54, 55, 56, 57]⟩ : ByteArray).extract (x3_1 : Int).toNat ((wrap64 (x3_1 + 1)) : Int).toNat).size ≤ 9223372036854775807
          ·rw [if_pos c16] at H
           have c16b0 := eq_true c16
           have c16b1 : decide (t321.size + ((⟨#[48, 49, 50, 51, 52, 53, 54, 55, 56, 57]⟩ : ByteArray).extract (x3_1 : Int).toNat ((wrap64 (x3_1 + 1)) : Int).toNat).size ≤ 9223372036854775807) = true := decide_eq_true c16
           try have c16b2 : (9223372036854775807 < t321.size + ((⟨#[48, 49, 50, 51, 52, 53, 54, 55, 56, 57]⟩ : ByteArray).extract (x3_1 : Int).toNat ((wrap64 (x3_1 + 1)) : Int).toNat).size) = False := eq_false (Nat.not_lt.2 c16)
           obtain rfl := Option.some.inj H
           go_wp2_with (first | ((with_reducible refine gate_callee (f := 69) rfl ?_); refine goesL_ (some 32) rfl rfl Tryz.func69 (by kernel_rfl) rfl #[.int .i64 (wrap64 (Int.tdiv a0 10))] rfl (by (try simp only [List.map_toArray, List.map_cons, List.map_nil]); first | done | rfl | (simp only [List.length_drop, List.length_take]; rfl)) ?_; (with_reducible refine (ih kj6 (by have := HJ1.out; have := HJ6.out; omega) (wrap64 (Int.tdiv a0 10)) t321 _ A15.out).mono ?_); rintro e w' ⟨rfl, ⟨nd, rfl⟩⟩; refine ⟨_, rfl, ?_⟩))
           go_ret
           exact ⟨by first | rfl | (simp; done) | (simp [*]; done), by repeat (first | exact Drawn0.refl _ | apply Drawn0.step)⟩
          ·rw [if_neg c16] at H
           exact absurd H (by simp)
     ·rw [if_neg c6] at H
      exact absurd H (by simp)
    ·rw [if_neg c5] at H
     exact absurd H (by simp)
   ·rw [if_neg c4] at H
    exact absurd H (by simp)

end Go.Proofs.YteaohgebocbehaaGreatDoor.XA
