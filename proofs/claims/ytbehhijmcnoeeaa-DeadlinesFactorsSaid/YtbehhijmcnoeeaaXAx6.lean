/- Functions of the given Go program as Lean functions, each with a proof that the machine's call answers so; conditions: the premises written in each. -/
import Derived.Test.YtbehhijmcnoeeaaXAx0
import Derived.Test.YtbehhijmcnoeeaaXAx4
import Derived.Test.YtbehhijmcnoeeaaXAx5
namespace Go.Proofs.Ytbehhijmcnoeeaa.XA
open Go.RowKit Go.Proofs.YtbehhijmcnoeeaaW.PrintWords Go.Proofs.YtbehhijmcnoeeaaW.PrintLast Go.Proofs.YtbehhijmcnoeeaaW.PrintMore
attribute [local go_sem] max2_int min2_int max_two min_two max_three min_three max_four min_four   -- for this text's walks alone
set_option linter.unusedVariables false
set_option linter.unusedSimpArgs false

/-! ### fraction_reduced: function 40 -/
def fraction_reduced.j0 : Nat → Int → Int → Option (Int × Int × Int)
 | 0, _, _ => none
 | k + 1, x0, x1 => (fraction_abs.f x0).bind fun t114 => ((fraction_divisor.f k t114 x1).bind fun t115 => (if t115 = 0 then (none) else ((fraction_Valid.f k (wrap64 (Int.tdiv x0 t115)) (wrap64 (Int.tdiv x1 t115))).bind fun t117 => (if t117 = true then (some (wrap64 (Int.tdiv x0 t115), wrap64 (Int.tdiv x1 t115), 0)) else (some (0, 0, 2))))))
def fraction_reduced.f (k : Nat) (a0 : Int) (a1 : Int) : Option (Int × Int × Int) := if a1 < 0 then (fraction_reduced.j0 k (wrap64 (-a0)) (wrap64 (-a1))) else (fraction_reduced.j0 k a0 a1)
theorem fraction_reduced.mono_l : ∀ k, (∀ y0 y1, LeO (fraction_reduced.j0 k y0 y1) (fraction_reduced.j0 (k + 1) y0 y1))
 | 0 => fun _ _ r h => by simp [fraction_reduced.j0] at h
 | k + 1 => by
  have ih0 := fraction_reduced.mono_l k
  ·intro y0 y1
   unfold fraction_reduced.j0
   repeat' first
   | (with_reducible exact ih0 _ _)
   | (with_reducible exact fraction_Valid.mono _ _ _)
   | (with_reducible exact fraction_divisor.mono _ _ _)
   | (with_reducible exact LeO.refl _)
   | (with_reducible exact LeO.none _)
   | (with_reducible refine LeO.ite ?_ ?_)
   | (with_reducible refine LeO.bind ?_ (fun _ => ?_))
   | exact ih0 _ _
   | exact fraction_Valid.mono _ _ _
   | exact fraction_divisor.mono _ _ _
   | exact LeO.none _
   | refine LeO.ite ?_ ?_
   | refine LeO.bind ?_ (fun _ => ?_)
theorem fraction_reduced.mono : ∀ a0 a1 k, LeO (fraction_reduced.f k a0 a1) (fraction_reduced.f (k + 1) a0 a1) := by
 intro a0 a1 k
 have ih0 := fraction_reduced.mono_l k
 unfold fraction_reduced.f
 repeat' first
   | (with_reducible exact ih0 _ _)
   | (with_reducible exact fraction_Valid.mono _ _ _)
   | (with_reducible exact fraction_divisor.mono _ _ _)
   | (with_reducible exact LeO.refl _)
   | (with_reducible exact LeO.none _)
   | (with_reducible refine LeO.ite ?_ ?_)
   | (with_reducible refine LeO.bind ?_ (fun _ => ?_))
   | exact ih0 _ _
   | exact fraction_Valid.mono _ _ _
   | exact fraction_divisor.mono _ _ _
   | exact LeO.none _
   | refine LeO.ite ?_ ?_
   | refine LeO.bind ?_ (fun _ => ?_)
def fraction_reduced.T4 : Bool × List (List Nat × List Nat) := (true, [([], []), ([], []), ([0, 1], [0, 1]), ([], []), ([], []), ([3, 4], [3, 4]), ([2, 5], [2, 5]), ([], []), ([7, 6, 0, 1, 2, 3, 4, 5, 6, 7], [6, 7])])
def fraction_reduced.B4 : List Nat := [0, 0, 3, 0, 0, 24, 63, 0, 255]
theorem fraction_reduced.tab4 : rtab .any (opsOf Try.f40 4) = fraction_reduced.T4 := by kernel_rfl
theorem fraction_reduced.bits4 : waitsOk fraction_reduced.T4.2 fraction_reduced.B4 = true := by kernel_rfl
set_option maxHeartbeats 8000000 in
set_option maxRecDepth 100000 in
theorem fraction_reduced.calls (k : Nat) (a0 : Int) (a1 : Int) (r1 : Int) (r2 : Int) (r3 : Int) (w : World) (h : fraction_reduced.f k a0 a1 = some (r1, r2, r3)) :
  Calls Try.prog 40 #[.int .i64 a0, .int .i64 a1] w fun e w' => e = .returned (.tuple #[.agg #[.int .i64 r1, .int .i64 r2], .int .i64 r3]) ∧ Below w.heap.size w w' := by
 have hu27 := Try.underlying27
 have HB := Aside0.mk (Below.refl w.heap.size w)
 have H : (if a1 < 0 then (fraction_reduced.j0 k (wrap64 (-a0)) (wrap64 (-a1))) else (fraction_reduced.j0 k a0 a1)) = some (r1, r2, r3) := h
 clear h
 have HC3 := Aside0.mk H
 clear H
 go_enter Try.func40, Try.ntmps40
 go_upto_if 9 with (first | ((with_reducible refine gate_dst (N := 4) rfl ?_); refine box_event ?hg (N := 4) ?hd (cs := #[.int .i64 0, .int .i64 0]) (t := 27) ?hr ?_; (case hd => rfl); (case hg => rfl); (case hr => first | (go_simp; done) | (go_simp; rfl)); intro gb113 hg w4 hbox hb; have n0_ := Aside0.mk (below_step (by repeat (first | (with_reducible first | exact HB.out | apply below_alloc | apply pw_below_drewN | apply below_drew1) | exact HB.out)) hb); have n1_ := Aside0.mk (hbox); have n2_ := Aside0.mk ((by rw [hg]; exact (below_size (by repeat (first | (with_reducible first | exact HB.out | apply below_alloc | apply pw_below_drewN | apply below_drew1) | exact HB.out))) : w.heap.size ≤ gb113)); have n3_ := Aside0.mk ((by rw [hg]; exact (below_size (by repeat (first | (with_reducible first | exact HB.out | apply below_alloc | apply pw_below_drewN | apply below_drew1) | exact HB.out))) : w.heap.size ≤ gb113)); clear HB; have HB := n0_; have BK113 := n1_; have GW113 := n2_; have GE113 := n3_; clear n0_ n1_ n2_ n3_; clear hb hbox hg))
 (try simp only [Act.put, List.setIfInBounds_toArray, List.set_cons_zero, List.set_cons_succ])
 go_cut [0, 1] (fun v0 v1 wc => ∃ (kq : Nat) (x0_2 : Int) (x1_2 : Int), v0 = .int .i64 x0_2 ∧ v1 = .int .i64 x1_2 ∧ Aside0 (fraction_reduced.j0 kq x0_2 x1_2 = some (r1, r2, r3)) ∧ Aside0 (kq ≤ k) ∧ Aside0 (wc.heap[gb113]? = some (.cells #[.int .i64 0, .int .i64 0] 27 (0, 0))) ∧ Aside0 (Below w.heap.size w wc))
 case first =>
  have H := HC3.out
  clear HC3
  by_cases c5 : a1 < 0
  ·rw [if_pos c5] at H
   have c5b0 : decide (a1 < 0) = true := decide_eq_true c5
   clear c5
   (first | rw [c5b0] | (simp only [i64_w, i32_w]; rw [c5b0]) | skip)
   have H' := Aside0.mk H
   clear H
   go_wp2
   go_meet
   case rel => exact ⟨_, (wrap64 (-a0)), (wrap64 (-a1)), (by first | rfl | (simp; done) | (simp [*]; done)), (by first | rfl | (simp; done) | (simp [*]; done)), H', ⟨by first | omega | exact Nat.le_refl _⟩, ⟨by (with_reducible repeat (first | refine blk_drewN ?_ _ | refine blk_drew ?_ | refine blk_alloc ?_ _)); exact BK113.out⟩, ⟨by repeat (first | (with_reducible first | exact HB.out | apply below_alloc | apply pw_below_drewN | apply below_drew1 | refine below_set ?_ GE113.out) | exact HB.out)⟩⟩
  ·rw [if_neg c5] at H
   have c5b0 : decide (a1 < 0) = false := decide_eq_false c5
   clear c5
   (first | rw [c5b0] | (simp only [i64_w, i32_w]; rw [c5b0]) | skip)
   have H' := Aside0.mk H
   clear H
   go_wp2
   go_meet
   case rel => exact ⟨_, (a0), (a1), (by first | rfl | (simp; done) | (simp [*]; done)), (by first | rfl | (simp; done) | (simp [*]; done)), H', ⟨by first | omega | exact Nat.le_refl _⟩, ⟨by (with_reducible repeat (first | refine blk_drewN ?_ _ | refine blk_drew ?_ | refine blk_alloc ?_ _)); exact BK113.out⟩, ⟨by repeat (first | (with_reducible first | exact HB.out | apply below_alloc | apply pw_below_drewN | apply below_drew1 | refine below_set ?_ GE113.out) | exact HB.out)⟩⟩
 case rest =>
  clear HC3
  try clear p2
  try clear c4
  try clear c5
  try clear c5b0
  obtain ⟨kq, x0_2, x1_2, rfl, rfl, HA, HJ2, BK113, HB⟩ := hcut
  cases kq with
  | zero => exact absurd HA.out (by simp [fraction_reduced.j0])
  | succ kj2 =>
   have H := HA.out
   clear HA
   simp only [fraction_reduced.j0] at H
   replace H := Option.bind_eq_some_iff.mp H
   obtain ⟨t114, A60, H⟩ := H
   replace H : ((fraction_divisor.f kj2 t114 x1_2).bind fun t115 => (if t115 = 0 then (none) else ((fraction_Valid.f kj2 (wrap64 (Int.tdiv x0_2 t115)) (wrap64 (Int.tdiv x1_2 t115))).bind fun t117 => (if t117 = true then (some (wrap64 (Int.tdiv x0_2 t115), wrap64 (Int.tdiv x1_2 t115), 0)) else (some (0, 0, 2)))))) = some (r1, r2, r3) := H
   have A6 := Aside0.mk A60
   clear A60
   replace H := Option.bind_eq_some_iff.mp H
   obtain ⟨t115, A70, H⟩ := H
   replace H : (if t115 = 0 then (none) else ((fraction_Valid.f kj2 (wrap64 (Int.tdiv x0_2 t115)) (wrap64 (Int.tdiv x1_2 t115))).bind fun t117 => (if t117 = true then (some (wrap64 (Int.tdiv x0_2 t115), wrap64 (Int.tdiv x1_2 t115), 0)) else (some (0, 0, 2))))) = some (r1, r2, r3) := H
   have A7 := Aside0.mk A70
   clear A70
   by_cases c8 : t115 = 0
   ·rw [if_pos c8] at H
    exact absurd H (by simp)
   ·rw [if_neg c8] at H
    have c8b0 : (t115 == 0) = false := beq_eq_false_iff_ne.mpr c8
    have c8b1 : (t115 != 0) = true := bne_iff_ne.mpr c8
    replace H := Option.bind_eq_some_iff.mp H
    obtain ⟨t117, A90, H⟩ := H
    replace H : (if t117 = true then (some (wrap64 (Int.tdiv x0_2 t115), wrap64 (Int.tdiv x1_2 t115), 0)) else (some (0, 0, 2))) = some (r1, r2, r3) := H
    have A9 := Aside0.mk A90
    clear A90
    by_cases c10 : t117 = true
    ·subst c10
     have H1 : (some (wrap64 (Int.tdiv x0_2 t115), wrap64 (Int.tdiv x1_2 t115), 0)) = some (r1, r2, r3) := by rw [if_pos rfl] at H; exact H
     clear H
     have H := H1
     clear H1
     simp only [Option.some.injEq, Prod.mk.injEq] at H
     obtain ⟨rfl, rfl, rfl⟩ := H
     try go_wp2_with (first | ((with_reducible refine gate_callee (f := 46) rfl ?_); refine goesL_ (some 15) rfl rfl Try.func46 (by kernel_rfl) rfl #[.int .i64 x0_2] rfl (by (try simp only [List.map_toArray, List.map_cons, List.map_nil]); first | done | rfl | (simp only [List.length_drop, List.length_take]; rfl)) ?_; (with_reducible refine (fraction_abs.calls x0_2 t114 _ A6.out).mono ?_); rintro e w11 ⟨rfl, hb⟩; refine ⟨_, rfl, ?_⟩; have n0_ := Aside0.mk (blk_below (g := gb113) (o := .cells #[.int .i64 0, .int .i64 0] 27 (0, 0)) (by (with_reducible repeat (first | refine blk_drewN ?_ _ | refine blk_drew ?_ | refine blk_alloc ?_ _)); exact BK113.out) hb); have n1_ := Aside0.mk (below_step (by repeat (first | (with_reducible first | exact HB.out | apply below_alloc | apply pw_below_drewN | apply below_drew1 | refine below_set ?_ GE113.out) | exact HB.out)) hb); clear BK113; clear HB; have BK113 := n0_; have HB := n1_; clear n0_ n1_; (try clear hb); (try clear hb2); (try clear hk); (try clear hi)) | ((with_reducible refine gate_callee (f := 45) rfl ?_); refine goesL_ (some 17) rfl rfl Try.func45 (by kernel_rfl) rfl #[.int .i64 t114, .int .i64 x1_2] rfl (by (try simp only [List.map_toArray, List.map_cons, List.map_nil]); first | done | rfl | (simp only [List.length_drop, List.length_take]; rfl)) ?_; (with_reducible refine (fraction_divisor.calls kj2 t114 x1_2 t115 _ A7.out).mono ?_); rintro e w' ⟨rfl, ⟨nd, rfl⟩⟩; refine ⟨_, rfl, ?_⟩; (try (rw [drewN_self w11]; generalize hq_ : World.drewN w11 _ = w11; have n0_ : Aside0 (w11.heap[gb113]? = some (.cells #[.int .i64 0, .int .i64 0] 27 (0, 0))) := ⟨by rw [← hq_]; exact (by (with_reducible repeat (first | refine blk_drewN ?_ _ | refine blk_drew ?_ | refine blk_alloc ?_ _)); exact BK113.out)⟩; have n1_ : Aside0 (Below w.heap.size w w11) := ⟨by rw [← hq_]; exact (by repeat (first | (with_reducible first | exact HB.out | apply below_alloc | apply pw_below_drewN | apply below_drew1 | refine below_set ?_ GE113.out) | exact HB.out))⟩; clear BK113 HB hq_; have BK113 := n0_; have HB := n1_; clear n0_ n1_))))
     have n0_ := Aside0.mk (blk_drew BK113.out)
     have n1_ := Aside0.mk (below_drew1 HB.out)
     clear BK113
     clear HB
     have BK113 := n0_
     have HB := n1_
     clear n0_ n1_
     refine start_ (n := 9) (S := fun w' => True) (ds := []) #[false, false, false, false, false, false, false, false, false] (by kernel_rfl) rfl rfl trivial (fun hHeld => ?_); refine with_tabW fraction_reduced.tab4 fraction_reduced.bits4 (fun HT_ HW_ => ?_)
     generalize w11.drew = w12 at BK113 HB hHeld ⊢
     refine pure_ (i := 0) (N := some 18) (v := ?_) (a' := ?_) #[true, false, false, false, false, false, false, false, false] rfl rfl (any_of HT_.out (by kernel_rfl)) (fun _ _ _ h => h) (Or.inl ⟨by rfl, ?_⟩) ?_ ?_
     rotate_left
     ·intro w'
      go_simp
      with_reducible rfl
     rotate_left
     ·simp only [Act.put, sA, sZ, sS, i64_w]
      rfl
     refine pure_ (i := 1) (N := some 19) (v := ?_) (a' := ?_) #[true, true, false, false, false, false, false, false, false] rfl rfl (any_of HT_.out (by kernel_rfl)) (fun _ _ _ h => h) (Or.inl ⟨by rfl, ?_⟩) ?_ ?_
     rotate_left
     ·intro w'
      go_simp
      with_reducible rfl
     rotate_left
     ·simp only [Act.put, sA, sZ, sS, i64_w]
      rfl
     refine pure_ (i := 2) (N := some 20) (v := ?_) (a' := ?_) #[true, true, true, false, false, false, false, false, false] rfl rfl (any_of HT_.out (by kernel_rfl)) (fun _ _ _ h => h) (Or.inl ⟨by rfl, ?_⟩) ?_ ?_
     rotate_left
     ·intro w'
      go_simp
      with_reducible rfl
     rotate_left
     ·simp only [Act.put, sA, sZ, sS, i64_w]
      rfl
     refine pure_ (i := 3) (N := some 21) (v := ?_) (a' := ?_) #[true, true, true, true, false, false, false, false, false] rfl rfl (any_of HT_.out (by kernel_rfl)) (fun _ _ _ h => h) (Or.inl ⟨by rfl, ?_⟩) ?_ ?_
     rotate_left
     ·intro w'
      go_simp
      with_reducible rfl
     rotate_left
     ·simp only [Act.put, sA, sZ, sS, i64_w]
      rfl
     refine pure_ (i := 4) (N := some 22) (v := ?_) (a' := ?_) #[true, true, true, true, true, false, false, false, false] rfl rfl (any_of HT_.out (by kernel_rfl)) (fun _ _ _ h => h) (Or.inl ⟨by rfl, ?_⟩) ?_ ?_
     rotate_left
     ·intro w'
      go_simp
      with_reducible rfl
     rotate_left
     ·simp only [Act.put, sA, sZ, sS, i64_w]
      rfl
     refine pure_ (i := 5) (N := some 23) (v := ?_) (a' := ?_) #[true, true, true, true, true, true, false, false, false] rfl rfl (any_of HT_.out (by kernel_rfl)) (fun _ _ _ h => h) (Or.inl ⟨by rfl, ?_⟩) ?_ ?_
     rotate_left
     ·intro w'
      go_simp
      with_reducible rfl
     rotate_left
     ·simp only [Act.put, sA, sZ, sS, i64_w]
      rfl
     refine pure_ (i := 6) (N := some 24) (v := ?_) (a' := ?_) #[true, true, true, true, true, true, true, false, false] rfl rfl (any_of HT_.out (by kernel_rfl)) (fun _ _ _ h => h) (Or.inl ⟨by rfl, ?_⟩) ?_ ?_
     rotate_left
     ·intro w'
      go_simp
      with_reducible rfl
     rotate_left
     ·simp only [Act.put, sA, sZ, sS, i64_w]
      rfl
     refine one_ (i := 7) (N := some 7) #[true, true, true, true, true, true, true, true, false] rfl rfl (one_of HT_.out (by kernel_rfl)) (by decide) (fun K hK => ?_)
     refine box_step ?hg (N := 7) ?hd (cs := #[.int .i64 0, .int .i64 0]) (t := 27) ?hr ?_; (case hd => rfl); (case hg => rfl); (case hr => first | (go_simp; done) | (go_simp; rfl))
     intro gb116 hg w13 hbox hb
     have n0_ := Aside0.mk (blk_below (g := gb113) (o := .cells #[.int .i64 0, .int .i64 0] 27 (0, 0)) (by (with_reducible repeat (first | refine blk_drewN ?_ _ | refine blk_drew ?_ | refine blk_alloc ?_ _)); exact BK113.out) hb)
     have n1_ := Aside0.mk (below_step (by repeat (first | (with_reducible first | exact HB.out | apply below_alloc | apply pw_below_drewN | apply below_drew1 | refine below_set ?_ GE113.out) | exact HB.out)) hb)
     have n2_ := Aside0.mk (hbox)
     have n3_ := Aside0.mk ((by rw [hg]; exact (below_size (by repeat (first | (with_reducible first | exact HB.out | apply below_alloc | apply pw_below_drewN | apply below_drew1 | refine below_set ?_ GE113.out) | exact HB.out))) : w.heap.size ≤ gb116))
     have n4_ := Aside0.mk ((by rw [hg]; exact (below_size (by repeat (first | (with_reducible first | exact HB.out | apply below_alloc | apply pw_below_drewN | apply below_drew1 | refine below_set ?_ GE113.out) | exact HB.out))) : w.heap.size ≤ gb116))
     have n5_ := Aside0.mk ((by rw [hg]; exact Nat.ne_of_lt (blk_lt (g := gb113) (o := .cells #[.int .i64 0, .int .i64 0] 27 (0, 0)) (by (with_reducible repeat (first | refine blk_drewN ?_ _ | refine blk_drew ?_ | refine blk_alloc ?_ _)); exact BK113.out)) : gb113 ≠ gb116))
     have n6_ := Aside0.mk ((by rw [hg]; exact Nat.ne_of_gt (blk_lt (g := gb113) (o := .cells #[.int .i64 0, .int .i64 0] 27 (0, 0)) (by (with_reducible repeat (first | refine blk_drewN ?_ _ | refine blk_drew ?_ | refine blk_alloc ?_ _)); exact BK113.out)) : gb116 ≠ gb113))
     clear BK113
     clear HB
     have BK113 := n0_
     have HB := n1_
     have BK116 := n2_
     have GW116 := n3_
     have GE116 := n4_
     have NB113_116 := n5_
     have NB116_113 := n6_
     clear n0_ n1_ n2_ n3_ n4_ n5_ n6_
     clear hb hbox hg
     refine hK.out _ _ trivial (fun hHeld => ?_)
     clear hK K
     refine norm_ (a' := ?_) ?_ ?_
     rotate_left
     ·show Act.put _ (some 7) _ = _
      simp only [Act.put, sA, sZ, sS, i64_w]
      rfl
     refine one_ (i := 8) (N := none) #[true, true, true, true, true, true, true, true, true] rfl rfl (one_of HT_.out (by kernel_rfl)) (by decide) (fun K hK => ?_)
     have hs14 : w13.cell? ⟨gb116, 0, none⟩ = some (.int .i64 0) := (blk_cell BK116.out 0).trans rfl
     have hfs14 := blk_frozen BK116.out 0
     have hns14_0 := NB113_116.out
     have hms14_0 := NB116_113.out
     have hs15 : w13.cell? ⟨gb116, 1, none⟩ = some (.int .i64 0) := (blk_cell BK116.out 1).trans rfl
     have hfs15 := blk_frozen BK116.out 1
     have hns15_0 := NB113_116.out
     have hms15_0 := NB116_113.out
     refine skip_ (w1 := ?_) (by rfl) rfl ?_ ?_
     rotate_left
     ·go_simp
      rfl
     refine hK.out _ _ trivial (fun hHeld => ?_)
     clear hK K
     refine done_ (done_of HT_.out (by kernel_rfl)) ?_
     have hnb16 := NB116_113.out
     have hnc16 := NB113_116.out
     have hcz17_0 : w13.cell? ⟨gb116, 0, none⟩ = some (.int .i64 0) := (blk_cell BK116.out 0).trans rfl
     have hcz17_1 : w13.cell? ⟨gb116, 1, none⟩ = some (.int .i64 0) := (blk_cell BK116.out 1).trans rfl
     have hfz17_0 := blk_frozen BK116.out 0
     have hfz17_1 := blk_frozen BK116.out 1
     try go_wp2_with (first | ((with_reducible refine gate_callee (f := 47) rfl ?_); refine goesL_ (some 26) rfl rfl Try.func47 (by kernel_rfl) rfl #[.agg #[.int .i64 (wrap64 (Int.tdiv x0_2 t115)), .int .i64 (wrap64 (Int.tdiv x1_2 t115))]] rfl (by (try simp only [List.map_toArray, List.map_cons, List.map_nil]); first | done | rfl | (simp only [List.length_drop, List.length_take]; rfl)) ?_; (with_reducible refine (fraction_Valid.calls kj2 (wrap64 (Int.tdiv x0_2 t115)) (wrap64 (Int.tdiv x1_2 t115)) true _ A9.out).mono ?_); rintro e w18 ⟨rfl, hb⟩; refine ⟨_, rfl, ?_⟩; have n0_ := Aside0.mk (blk_below (g := gb113) (o := .cells #[.int .i64 0, .int .i64 0] 27 (0, 0)) (by (with_reducible repeat (first | refine blk_drewN ?_ _ | refine blk_drew ?_ | refine blk_alloc ?_ _)); refine blk_far ?_ NB113_116.out _; (with_reducible repeat (first | refine blk_drewN ?_ _ | refine blk_drew ?_ | refine blk_alloc ?_ _)); refine blk_far ?_ NB113_116.out _; (with_reducible repeat (first | refine blk_drewN ?_ _ | refine blk_drew ?_ | refine blk_alloc ?_ _)); exact BK113.out) hb); have n1_ := Aside0.mk (blk_below (g := gb116) (o := .cells #[.int .i64 (wrap64 (Int.tdiv x0_2 t115)), .int .i64 (wrap64 (Int.tdiv x1_2 t115))] 27 (0, 0)) (by (with_reducible repeat (first | refine blk_drewN ?_ _ | refine blk_drew ?_ | refine blk_alloc ?_ _)); refine blk_put (cs := #[.int .i64 (wrap64 (Int.tdiv x0_2 t115)), .int .i64 0]) ?_ 1 _ rfl; (with_reducible repeat (first | refine blk_drewN ?_ _ | refine blk_drew ?_ | refine blk_alloc ?_ _)); refine blk_put (cs := #[.int .i64 0, .int .i64 0]) ?_ 0 _ rfl; (with_reducible repeat (first | refine blk_drewN ?_ _ | refine blk_drew ?_ | refine blk_alloc ?_ _)); exact BK116.out) hb); have n2_ := Aside0.mk (below_step (by repeat (first | (with_reducible first | exact HB.out | apply below_alloc | apply pw_below_drewN | apply below_drew1 | refine below_set ?_ GE113.out | refine below_set ?_ GE116.out) | exact HB.out)) hb); clear BK113; clear BK116; clear HB; have BK113 := n0_; have BK116 := n1_; have HB := n2_; clear n0_ n1_ n2_; (try clear hb); (try clear hb2); (try clear hk); (try clear hi); have hcz19_0 : w18.cell? ⟨gb116, 0, none⟩ = some (.int .i64 (wrap64 (Int.tdiv x0_2 t115))) := (blk_cell BK116.out 0).trans rfl; have hcz19_1 : w18.cell? ⟨gb116, 1, none⟩ = some (.int .i64 (wrap64 (Int.tdiv x1_2 t115))) := (blk_cell BK116.out 1).trans rfl; have hfz19_0 := blk_frozen BK116.out 0; have hfz19_1 := blk_frozen BK116.out 1; have hcz20_0 : w18.cell? ⟨gb113, 0, none⟩ = some (.int .i64 0) := (blk_cell BK113.out 0).trans rfl; have hcz20_1 : w18.cell? ⟨gb113, 1, none⟩ = some (.int .i64 0) := (blk_cell BK113.out 1).trans rfl; have hfz20_0 := blk_frozen BK113.out 0; have hfz20_1 := blk_frozen BK113.out 1))
     refine bodyPost_ret (results_ct rfl _ _ gb113 27 #[.int .i64 (wrap64 (Int.tdiv x0_2 t115)), .int .i64 (wrap64 (Int.tdiv x1_2 t115))] (0, 0) _ rfl (by (with_reducible repeat (first | refine blk_drewN ?_ _ | refine blk_drew ?_ | refine blk_alloc ?_ _)); refine blk_put (cs := #[.int .i64 (wrap64 (Int.tdiv x0_2 t115)), .int .i64 0]) ?_ 1 _ rfl; (with_reducible repeat (first | refine blk_drewN ?_ _ | refine blk_drew ?_ | refine blk_alloc ?_ _)); refine blk_put (cs := #[.int .i64 0, .int .i64 0]) ?_ 0 _ rfl; (with_reducible repeat (first | refine blk_drewN ?_ _ | refine blk_drew ?_ | refine blk_alloc ?_ _)); exact BK113.out) Try.underlying27 rfl (by kernel_rfl)) rfl ?_
     exact ⟨by first | rfl | (simp [errW_none, errW_some] <;> rfl) | (simp [*, errW_none, errW_some] <;> rfl), by repeat (first | (with_reducible first | exact HB.out | apply below_alloc | apply pw_below_drewN | apply below_drew1 | refine below_set ?_ GE113.out | refine below_set ?_ GE116.out) | exact HB.out)⟩
    ·replace c10 := Bool.eq_false_iff.mpr c10
     subst c10
     have H1 : (some (0, 0, 2)) = some (r1, r2, r3) := by rw [if_neg (show ¬ (false = true) by decide)] at H; exact H
     clear H
     have H := H1
     clear H1
     simp only [Option.some.injEq, Prod.mk.injEq] at H
     obtain ⟨rfl, rfl, rfl⟩ := H
     try go_wp2_with (first | ((with_reducible refine gate_callee (f := 46) rfl ?_); refine goesL_ (some 15) rfl rfl Try.func46 (by kernel_rfl) rfl #[.int .i64 x0_2] rfl (by (try simp only [List.map_toArray, List.map_cons, List.map_nil]); first | done | rfl | (simp only [List.length_drop, List.length_take]; rfl)) ?_; (with_reducible refine (fraction_abs.calls x0_2 t114 _ A6.out).mono ?_); rintro e w21 ⟨rfl, hb⟩; refine ⟨_, rfl, ?_⟩; have n0_ := Aside0.mk (blk_below (g := gb113) (o := .cells #[.int .i64 0, .int .i64 0] 27 (0, 0)) (by (with_reducible repeat (first | refine blk_drewN ?_ _ | refine blk_drew ?_ | refine blk_alloc ?_ _)); exact BK113.out) hb); have n1_ := Aside0.mk (below_step (by repeat (first | (with_reducible first | exact HB.out | apply below_alloc | apply pw_below_drewN | apply below_drew1 | refine below_set ?_ GE113.out) | exact HB.out)) hb); clear BK113; clear HB; have BK113 := n0_; have HB := n1_; clear n0_ n1_; (try clear hb); (try clear hb2); (try clear hk); (try clear hi)) | ((with_reducible refine gate_callee (f := 45) rfl ?_); refine goesL_ (some 17) rfl rfl Try.func45 (by kernel_rfl) rfl #[.int .i64 t114, .int .i64 x1_2] rfl (by (try simp only [List.map_toArray, List.map_cons, List.map_nil]); first | done | rfl | (simp only [List.length_drop, List.length_take]; rfl)) ?_; (with_reducible refine (fraction_divisor.calls kj2 t114 x1_2 t115 _ A7.out).mono ?_); rintro e w' ⟨rfl, ⟨nd, rfl⟩⟩; refine ⟨_, rfl, ?_⟩; (try (rw [drewN_self w21]; generalize hq_ : World.drewN w21 _ = w21; have n0_ : Aside0 (w21.heap[gb113]? = some (.cells #[.int .i64 0, .int .i64 0] 27 (0, 0))) := ⟨by rw [← hq_]; exact (by (with_reducible repeat (first | refine blk_drewN ?_ _ | refine blk_drew ?_ | refine blk_alloc ?_ _)); exact BK113.out)⟩; have n1_ : Aside0 (Below w.heap.size w w21) := ⟨by rw [← hq_]; exact (by repeat (first | (with_reducible first | exact HB.out | apply below_alloc | apply pw_below_drewN | apply below_drew1 | refine below_set ?_ GE113.out) | exact HB.out))⟩; clear BK113 HB hq_; have BK113 := n0_; have HB := n1_; clear n0_ n1_))))
     have n0_ := Aside0.mk (blk_drew BK113.out)
     have n1_ := Aside0.mk (below_drew1 HB.out)
     clear BK113
     clear HB
     have BK113 := n0_
     have HB := n1_
     clear n0_ n1_
     refine start_ (n := 9) (S := fun w' => True) (ds := []) #[false, false, false, false, false, false, false, false, false] (by kernel_rfl) rfl rfl trivial (fun hHeld => ?_); refine with_tabW fraction_reduced.tab4 fraction_reduced.bits4 (fun HT_ HW_ => ?_)
     generalize w21.drew = w22 at BK113 HB hHeld ⊢
     refine pure_ (i := 0) (N := some 18) (v := ?_) (a' := ?_) #[true, false, false, false, false, false, false, false, false] rfl rfl (any_of HT_.out (by kernel_rfl)) (fun _ _ _ h => h) (Or.inl ⟨by rfl, ?_⟩) ?_ ?_
     rotate_left
     ·intro w'
      go_simp
      with_reducible rfl
     rotate_left
     ·simp only [Act.put, sA, sZ, sS, i64_w]
      rfl
     refine pure_ (i := 1) (N := some 19) (v := ?_) (a' := ?_) #[true, true, false, false, false, false, false, false, false] rfl rfl (any_of HT_.out (by kernel_rfl)) (fun _ _ _ h => h) (Or.inl ⟨by rfl, ?_⟩) ?_ ?_
     rotate_left
     ·intro w'
      go_simp
      with_reducible rfl
     rotate_left
     ·simp only [Act.put, sA, sZ, sS, i64_w]
      rfl
     refine pure_ (i := 2) (N := some 20) (v := ?_) (a' := ?_) #[true, true, true, false, false, false, false, false, false] rfl rfl (any_of HT_.out (by kernel_rfl)) (fun _ _ _ h => h) (Or.inl ⟨by rfl, ?_⟩) ?_ ?_
     rotate_left
     ·intro w'
      go_simp
      with_reducible rfl
     rotate_left
     ·simp only [Act.put, sA, sZ, sS, i64_w]
      rfl
     refine pure_ (i := 3) (N := some 21) (v := ?_) (a' := ?_) #[true, true, true, true, false, false, false, false, false] rfl rfl (any_of HT_.out (by kernel_rfl)) (fun _ _ _ h => h) (Or.inl ⟨by rfl, ?_⟩) ?_ ?_
     rotate_left
     ·intro w'
      go_simp
      with_reducible rfl
     rotate_left
     ·simp only [Act.put, sA, sZ, sS, i64_w]
      rfl
     refine pure_ (i := 4) (N := some 22) (v := ?_) (a' := ?_) #[true, true, true, true, true, false, false, false, false] rfl rfl (any_of HT_.out (by kernel_rfl)) (fun _ _ _ h => h) (Or.inl ⟨by rfl, ?_⟩) ?_ ?_
     rotate_left
     ·intro w'
      go_simp
      with_reducible rfl
     rotate_left
     ·simp only [Act.put, sA, sZ, sS, i64_w]
      rfl
     refine pure_ (i := 5) (N := some 23) (v := ?_) (a' := ?_) #[true, true, true, true, true, true, false, false, false] rfl rfl (any_of HT_.out (by kernel_rfl)) (fun _ _ _ h => h) (Or.inl ⟨by rfl, ?_⟩) ?_ ?_
     rotate_left
     ·intro w'
      go_simp
      with_reducible rfl
     rotate_left
     ·simp only [Act.put, sA, sZ, sS, i64_w]
      rfl
     refine pure_ (i := 6) (N := some 24) (v := ?_) (a' := ?_) #[true, true, true, true, true, true, true, false, false] rfl rfl (any_of HT_.out (by kernel_rfl)) (fun _ _ _ h => h) (Or.inl ⟨by rfl, ?_⟩) ?_ ?_
     rotate_left
     ·intro w'
      go_simp
      with_reducible rfl
     rotate_left
     ·simp only [Act.put, sA, sZ, sS, i64_w]
      rfl
     refine one_ (i := 7) (N := some 7) #[true, true, true, true, true, true, true, true, false] rfl rfl (one_of HT_.out (by kernel_rfl)) (by decide) (fun K hK => ?_)
     refine box_step ?hg (N := 7) ?hd (cs := #[.int .i64 0, .int .i64 0]) (t := 27) ?hr ?_; (case hd => rfl); (case hg => rfl); (case hr => first | (go_simp; done) | (go_simp; rfl))
     intro gb116 hg w23 hbox hb
     have n0_ := Aside0.mk (blk_below (g := gb113) (o := .cells #[.int .i64 0, .int .i64 0] 27 (0, 0)) (by (with_reducible repeat (first | refine blk_drewN ?_ _ | refine blk_drew ?_ | refine blk_alloc ?_ _)); exact BK113.out) hb)
     have n1_ := Aside0.mk (below_step (by repeat (first | (with_reducible first | exact HB.out | apply below_alloc | apply pw_below_drewN | apply below_drew1 | refine below_set ?_ GE113.out) | exact HB.out)) hb)
     have n2_ := Aside0.mk (hbox)
     have n3_ := Aside0.mk ((by rw [hg]; exact (below_size (by repeat (first | (with_reducible first | exact HB.out | apply below_alloc | apply pw_below_drewN | apply below_drew1 | refine below_set ?_ GE113.out) | exact HB.out))) : w.heap.size ≤ gb116))
     have n4_ := Aside0.mk ((by rw [hg]; exact (below_size (by repeat (first | (with_reducible first | exact HB.out | apply below_alloc | apply pw_below_drewN | apply below_drew1 | refine below_set ?_ GE113.out) | exact HB.out))) : w.heap.size ≤ gb116))
     have n5_ := Aside0.mk ((by rw [hg]; exact Nat.ne_of_lt (blk_lt (g := gb113) (o := .cells #[.int .i64 0, .int .i64 0] 27 (0, 0)) (by (with_reducible repeat (first | refine blk_drewN ?_ _ | refine blk_drew ?_ | refine blk_alloc ?_ _)); exact BK113.out)) : gb113 ≠ gb116))
     have n6_ := Aside0.mk ((by rw [hg]; exact Nat.ne_of_gt (blk_lt (g := gb113) (o := .cells #[.int .i64 0, .int .i64 0] 27 (0, 0)) (by (with_reducible repeat (first | refine blk_drewN ?_ _ | refine blk_drew ?_ | refine blk_alloc ?_ _)); exact BK113.out)) : gb116 ≠ gb113))
     clear BK113
     clear HB
     have BK113 := n0_
     have HB := n1_
     have BK116 := n2_
     have GW116 := n3_
     have GE116 := n4_
     have NB113_116 := n5_
     have NB116_113 := n6_
     clear n0_ n1_ n2_ n3_ n4_ n5_ n6_
     clear hb hbox hg
     refine hK.out _ _ trivial (fun hHeld => ?_)
     clear hK K
     refine norm_ (a' := ?_) ?_ ?_
     rotate_left
     ·show Act.put _ (some 7) _ = _
      simp only [Act.put, sA, sZ, sS, i64_w]
      rfl
     refine one_ (i := 8) (N := none) #[true, true, true, true, true, true, true, true, true] rfl rfl (one_of HT_.out (by kernel_rfl)) (by decide) (fun K hK => ?_)
     have hs24 : w23.cell? ⟨gb116, 0, none⟩ = some (.int .i64 0) := (blk_cell BK116.out 0).trans rfl
     have hfs24 := blk_frozen BK116.out 0
     have hns24_0 := NB113_116.out
     have hms24_0 := NB116_113.out
     have hs25 : w23.cell? ⟨gb116, 1, none⟩ = some (.int .i64 0) := (blk_cell BK116.out 1).trans rfl
     have hfs25 := blk_frozen BK116.out 1
     have hns25_0 := NB113_116.out
     have hms25_0 := NB116_113.out
     refine skip_ (w1 := ?_) (by rfl) rfl ?_ ?_
     rotate_left
     ·go_simp
      rfl
     refine hK.out _ _ trivial (fun hHeld => ?_)
     clear hK K
     refine done_ (done_of HT_.out (by kernel_rfl)) ?_
     have hnb26 := NB116_113.out
     have hnc26 := NB113_116.out
     have hcz27_0 : w23.cell? ⟨gb116, 0, none⟩ = some (.int .i64 0) := (blk_cell BK116.out 0).trans rfl
     have hcz27_1 : w23.cell? ⟨gb116, 1, none⟩ = some (.int .i64 0) := (blk_cell BK116.out 1).trans rfl
     have hfz27_0 := blk_frozen BK116.out 0
     have hfz27_1 := blk_frozen BK116.out 1
     try go_wp2_with (first | ((with_reducible refine gate_callee (f := 47) rfl ?_); refine goesL_ (some 26) rfl rfl Try.func47 (by kernel_rfl) rfl #[.agg #[.int .i64 (wrap64 (Int.tdiv x0_2 t115)), .int .i64 (wrap64 (Int.tdiv x1_2 t115))]] rfl (by (try simp only [List.map_toArray, List.map_cons, List.map_nil]); first | done | rfl | (simp only [List.length_drop, List.length_take]; rfl)) ?_; (with_reducible refine (fraction_Valid.calls kj2 (wrap64 (Int.tdiv x0_2 t115)) (wrap64 (Int.tdiv x1_2 t115)) false _ A9.out).mono ?_); rintro e w28 ⟨rfl, hb⟩; refine ⟨_, rfl, ?_⟩; have n0_ := Aside0.mk (blk_below (g := gb113) (o := .cells #[.int .i64 0, .int .i64 0] 27 (0, 0)) (by (with_reducible repeat (first | refine blk_drewN ?_ _ | refine blk_drew ?_ | refine blk_alloc ?_ _)); refine blk_far ?_ NB113_116.out _; (with_reducible repeat (first | refine blk_drewN ?_ _ | refine blk_drew ?_ | refine blk_alloc ?_ _)); refine blk_far ?_ NB113_116.out _; (with_reducible repeat (first | refine blk_drewN ?_ _ | refine blk_drew ?_ | refine blk_alloc ?_ _)); exact BK113.out) hb); have n1_ := Aside0.mk (blk_below (g := gb116) (o := .cells #[.int .i64 (wrap64 (Int.tdiv x0_2 t115)), .int .i64 (wrap64 (Int.tdiv x1_2 t115))] 27 (0, 0)) (by (with_reducible repeat (first | refine blk_drewN ?_ _ | refine blk_drew ?_ | refine blk_alloc ?_ _)); refine blk_put (cs := #[.int .i64 (wrap64 (Int.tdiv x0_2 t115)), .int .i64 0]) ?_ 1 _ rfl; (with_reducible repeat (first | refine blk_drewN ?_ _ | refine blk_drew ?_ | refine blk_alloc ?_ _)); refine blk_put (cs := #[.int .i64 0, .int .i64 0]) ?_ 0 _ rfl; (with_reducible repeat (first | refine blk_drewN ?_ _ | refine blk_drew ?_ | refine blk_alloc ?_ _)); exact BK116.out) hb); have n2_ := Aside0.mk (below_step (by repeat (first | (with_reducible first | exact HB.out | apply below_alloc | apply pw_below_drewN | apply below_drew1 | refine below_set ?_ GE113.out | refine below_set ?_ GE116.out) | exact HB.out)) hb); clear BK113; clear BK116; clear HB; have BK113 := n0_; have BK116 := n1_; have HB := n2_; clear n0_ n1_ n2_; (try clear hb); (try clear hb2); (try clear hk); (try clear hi); have hcz29_0 : w28.cell? ⟨gb113, 0, none⟩ = some (.int .i64 0) := (blk_cell BK113.out 0).trans rfl; have hcz29_1 : w28.cell? ⟨gb113, 1, none⟩ = some (.int .i64 0) := (blk_cell BK113.out 1).trans rfl; have hfz29_0 := blk_frozen BK113.out 0; have hfz29_1 := blk_frozen BK113.out 1))
     refine bodyPost_ret (results_ct rfl _ _ gb113 27 #[.int .i64 0, .int .i64 0] (0, 0) _ rfl (by (with_reducible repeat (first | refine blk_drewN ?_ _ | refine blk_drew ?_ | refine blk_alloc ?_ _)); refine blk_put (cs := #[.int .i64 0, .int .i64 0]) ?_ 1 _ rfl; (with_reducible repeat (first | refine blk_drewN ?_ _ | refine blk_drew ?_ | refine blk_alloc ?_ _)); refine blk_put (cs := #[.int .i64 0, .int .i64 0]) ?_ 0 _ rfl; (with_reducible repeat (first | refine blk_drewN ?_ _ | refine blk_drew ?_ | refine blk_alloc ?_ _)); exact BK113.out) Try.underlying27 rfl (by kernel_rfl)) rfl ?_
     exact ⟨by first | rfl | (simp [errW_none, errW_some] <;> rfl) | (simp [*, errW_none, errW_some] <;> rfl), by repeat (first | (with_reducible first | exact HB.out | apply below_alloc | apply pw_below_drewN | apply below_drew1 | refine below_set ?_ GE113.out | refine below_set ?_ GE116.out) | exact HB.out)⟩

/-! ### fraction_Make: function 30 -/
def fraction_Make.f (k : Nat) (a0 : Int) (a1 : Int) : Option (Int × Int × Int) := if a1 = 0 then (some (0, 0, 1)) else ((fraction_Make_1.f a0).bind fun t119 => (if t119 = true then ((fraction_Make_1.f a1).bind fun t120 => (if t120 = true then ((fraction_reduced.f k a0 a1).bind fun bt121 => (some (bt121.1, bt121.2.1, bt121.2.2))) else (some (0, 0, 2)))) else (some (0, 0, 2))))
theorem fraction_Make.mono : ∀ a0 a1 k, LeO (fraction_Make.f k a0 a1) (fraction_Make.f (k + 1) a0 a1) := by
 intro a0 a1 k
 unfold fraction_Make.f
 repeat' first
   | (with_reducible exact fraction_reduced.mono _ _ _)
   | (with_reducible exact LeO.refl _)
   | (with_reducible exact LeO.none _)
   | (with_reducible refine LeO.ite ?_ ?_)
   | (with_reducible refine LeO.bind ?_ (fun _ => ?_))
   | exact fraction_reduced.mono _ _ _
   | exact LeO.none _
   | refine LeO.ite ?_ ?_
   | refine LeO.bind ?_ (fun _ => ?_)
set_option maxHeartbeats 8000000 in
set_option maxRecDepth 100000 in
theorem fraction_Make.calls (k : Nat) (a0 : Int) (a1 : Int) (r1 : Int) (r2 : Int) (r3 : Int) (w : World) (h : fraction_Make.f k a0 a1 = some (r1, r2, r3)) :
  Calls Try.prog 30 #[.int .i64 a0, .int .i64 a1] w fun e w' => e = .returned (.tuple #[.agg #[.int .i64 r1, .int .i64 r2], .int .i64 r3]) ∧ Below w.heap.size w w' := by
 have hu27 := Try.underlying27
 have HB := Aside0.mk (Below.refl w.heap.size w)
 have H : (if a1 = 0 then (some (0, 0, 1)) else ((fraction_Make_1.f a0).bind fun t119 => (if t119 = true then ((fraction_Make_1.f a1).bind fun t120 => (if t120 = true then ((fraction_reduced.f k a0 a1).bind fun bt121 => (some (bt121.1, bt121.2.1, bt121.2.2))) else (some (0, 0, 2)))) else (some (0, 0, 2))))) = some (r1, r2, r3) := h
 clear h
 by_cases c3 : a1 = 0
 ·rw [if_pos c3] at H
  have c3b0 : (a1 == 0) = true := beq_iff_eq.mpr c3
  have c3b1 : (a1 != 0) = false := bne_eq_false_iff_eq.mpr c3
  clear c3
  simp only [Option.some.injEq, Prod.mk.injEq] at H
  obtain ⟨rfl, rfl, rfl⟩ := H
  go_enter Try.func30, Try.ntmps30
  go_wp2_with (first | ((with_reducible refine gate_dst (N := 4) rfl ?_); refine box_event ?hg (N := 4) ?hd (cs := #[.int .i64 0, .int .i64 0]) (t := 27) ?hr ?_; (case hd => rfl); (case hg => rfl); (case hr => first | (go_simp; done) | (go_simp; rfl)); intro gb118 hg w4 hbox hb; have n0_ := Aside0.mk (below_step (by repeat (first | (with_reducible first | exact HB.out | apply below_alloc | apply pw_below_drewN | apply below_drew1) | exact HB.out)) hb); have n1_ := Aside0.mk (hbox); have n2_ := Aside0.mk ((by rw [hg]; exact (below_size (by repeat (first | (with_reducible first | exact HB.out | apply below_alloc | apply pw_below_drewN | apply below_drew1) | exact HB.out))) : w.heap.size ≤ gb118)); have n3_ := Aside0.mk ((by rw [hg]; exact (below_size (by repeat (first | (with_reducible first | exact HB.out | apply below_alloc | apply pw_below_drewN | apply below_drew1) | exact HB.out))) : w.heap.size ≤ gb118)); clear HB; have HB := n0_; have BK118 := n1_; have GW118 := n2_; have GE118 := n3_; clear n0_ n1_ n2_ n3_; clear hb hbox hg; have hcz5_0 : w4.cell? ⟨gb118, 0, none⟩ = some (.int .i64 0) := (blk_cell BK118.out 0).trans rfl; have hcz5_1 : w4.cell? ⟨gb118, 1, none⟩ = some (.int .i64 0) := (blk_cell BK118.out 1).trans rfl; have hfz5_0 := blk_frozen BK118.out 0; have hfz5_1 := blk_frozen BK118.out 1))
  refine bodyPost_ret (results_ct rfl _ _ gb118 27 #[.int .i64 0, .int .i64 0] (0, 0) _ rfl (by (with_reducible repeat (first | refine blk_drewN ?_ _ | refine blk_drew ?_ | refine blk_alloc ?_ _)); refine blk_put (cs := #[.int .i64 0, .int .i64 0]) ?_ 1 _ rfl; (with_reducible repeat (first | refine blk_drewN ?_ _ | refine blk_drew ?_ | refine blk_alloc ?_ _)); refine blk_put (cs := #[.int .i64 0, .int .i64 0]) ?_ 0 _ rfl; (with_reducible repeat (first | refine blk_drewN ?_ _ | refine blk_drew ?_ | refine blk_alloc ?_ _)); exact BK118.out) Try.underlying27 rfl (by kernel_rfl)) rfl ?_
  exact ⟨by first | rfl | (simp [errW_none, errW_some] <;> rfl) | (simp [*, errW_none, errW_some] <;> rfl), by repeat (first | (with_reducible first | exact HB.out | apply below_alloc | apply pw_below_drewN | apply below_drew1 | refine below_set ?_ GE118.out) | exact HB.out)⟩
 ·rw [if_neg c3] at H
  have c3b0 : (a1 == 0) = false := beq_eq_false_iff_ne.mpr c3
  have c3b1 : (a1 != 0) = true := bne_iff_ne.mpr c3
  replace H := Option.bind_eq_some_iff.mp H
  obtain ⟨t119, A60, H⟩ := H
  replace H : (if t119 = true then ((fraction_Make_1.f a1).bind fun t120 => (if t120 = true then ((fraction_reduced.f k a0 a1).bind fun bt121 => (some (bt121.1, bt121.2.1, bt121.2.2))) else (some (0, 0, 2)))) else (some (0, 0, 2))) = some (r1, r2, r3) := H
  have A6 := Aside0.mk A60
  clear A60
  by_cases c7 : t119 = true
  ·subst c7
   have H1 : ((fraction_Make_1.f a1).bind fun t120 => (if t120 = true then ((fraction_reduced.f k a0 a1).bind fun bt121 => (some (bt121.1, bt121.2.1, bt121.2.2))) else (some (0, 0, 2)))) = some (r1, r2, r3) := by rw [if_pos rfl] at H; exact H
   clear H
   have H := H1
   clear H1
   replace H := Option.bind_eq_some_iff.mp H
   obtain ⟨t120, A80, H⟩ := H
   replace H : (if t120 = true then ((fraction_reduced.f k a0 a1).bind fun bt121 => (some (bt121.1, bt121.2.1, bt121.2.2))) else (some (0, 0, 2))) = some (r1, r2, r3) := H
   have A8 := Aside0.mk A80
   clear A80
   by_cases c9 : t120 = true
   ·subst c9
    have H1 : ((fraction_reduced.f k a0 a1).bind fun bt121 => (some (bt121.1, bt121.2.1, bt121.2.2))) = some (r1, r2, r3) := by rw [if_pos rfl] at H; exact H
    clear H
    have H := H1
    clear H1
    replace H := Option.bind_eq_some_iff.mp H
    obtain ⟨⟨t121, t122, t123⟩, A100, H⟩ := H
    replace H : (some (t121, t122, t123)) = some (r1, r2, r3) := H
    have A10 := Aside0.mk A100
    clear A100
    simp only [Option.some.injEq, Prod.mk.injEq] at H
    obtain ⟨rfl, rfl, rfl⟩ := H
    go_enter Try.func30, Try.ntmps30
    go_wp2_with (first | ((with_reducible refine gate_dst (N := 4) rfl ?_); refine box_event ?hg (N := 4) ?hd (cs := #[.int .i64 0, .int .i64 0]) (t := 27) ?hr ?_; (case hd => rfl); (case hg => rfl); (case hr => first | (go_simp; done) | (go_simp; rfl)); intro gb118 hg w11 hbox hb; have n0_ := Aside0.mk (below_step (by repeat (first | (with_reducible first | exact HB.out | apply below_alloc | apply pw_below_drewN | apply below_drew1) | exact HB.out)) hb); have n1_ := Aside0.mk (hbox); have n2_ := Aside0.mk ((by rw [hg]; exact (below_size (by repeat (first | (with_reducible first | exact HB.out | apply below_alloc | apply pw_below_drewN | apply below_drew1) | exact HB.out))) : w.heap.size ≤ gb118)); have n3_ := Aside0.mk ((by rw [hg]; exact (below_size (by repeat (first | (with_reducible first | exact HB.out | apply below_alloc | apply pw_below_drewN | apply below_drew1) | exact HB.out))) : w.heap.size ≤ gb118)); clear HB; have HB := n0_; have BK118 := n1_; have GW118 := n2_; have GE118 := n3_; clear n0_ n1_ n2_ n3_; clear hb hbox hg) | (go_at_call 39; (with_reducible refine (fraction_Make_1.calls a0 true _ A6.out).mono ?_); rintro e w' ⟨rfl, ⟨nd, rfl⟩⟩; (try (rw [drewN_self w11]; generalize hq_ : World.drewN w11 _ = w11; have n0_ : Aside0 (w11.heap[gb118]? = some (.cells #[.int .i64 0, .int .i64 0] 27 (0, 0))) := ⟨by rw [← hq_]; exact (by (with_reducible repeat (first | refine blk_drewN ?_ _ | refine blk_drew ?_ | refine blk_alloc ?_ _)); exact BK118.out)⟩; have n1_ : Aside0 (Below w.heap.size w w11) := ⟨by rw [← hq_]; exact (by repeat (first | (with_reducible first | exact HB.out | apply below_alloc | apply pw_below_drewN | apply below_drew1 | refine below_set ?_ GE118.out) | exact HB.out))⟩; clear BK118 HB hq_; have BK118 := n0_; have HB := n1_; clear n0_ n1_))) | (go_at_call 39; (with_reducible refine (fraction_Make_1.calls a1 true _ A8.out).mono ?_); rintro e w' ⟨rfl, ⟨nd, rfl⟩⟩; (try (rw [drewN_self w11]; generalize hq_ : World.drewN w11 _ = w11; have n0_ : Aside0 (w11.heap[gb118]? = some (.cells #[.int .i64 0, .int .i64 0] 27 (0, 0))) := ⟨by rw [← hq_]; exact (by (with_reducible repeat (first | refine blk_drewN ?_ _ | refine blk_drew ?_ | refine blk_alloc ?_ _)); exact BK118.out)⟩; have n1_ : Aside0 (Below w.heap.size w w11) := ⟨by rw [← hq_]; exact (by repeat (first | (with_reducible first | exact HB.out | apply below_alloc | apply pw_below_drewN | apply below_drew1 | refine below_set ?_ GE118.out) | exact HB.out))⟩; clear BK118 HB hq_; have BK118 := n0_; have HB := n1_; clear n0_ n1_))) | ((with_reducible refine gate_callee (f := 40) rfl ?_); refine goesL_ (some 25) rfl rfl Try.func40 (by kernel_rfl) rfl #[.int .i64 a0, .int .i64 a1] rfl (by (try simp only [List.map_toArray, List.map_cons, List.map_nil]); first | done | rfl | (simp only [List.length_drop, List.length_take]; rfl)) ?_; (with_reducible refine (fraction_reduced.calls k a0 a1 t121 t122 t123 _ A10.out).mono ?_); rintro e w12 ⟨rfl, hb⟩; refine ⟨_, rfl, ?_⟩; have n0_ := Aside0.mk (blk_below (g := gb118) (o := .cells #[.int .i64 0, .int .i64 0] 27 (0, 0)) (by (with_reducible repeat (first | refine blk_drewN ?_ _ | refine blk_drew ?_ | refine blk_alloc ?_ _)); exact BK118.out) hb); have n1_ := Aside0.mk (below_step (by repeat (first | (with_reducible first | exact HB.out | apply below_alloc | apply pw_below_drewN | apply below_drew1 | refine below_set ?_ GE118.out) | exact HB.out)) hb); clear BK118; clear HB; have BK118 := n0_; have HB := n1_; clear n0_ n1_; (try clear hb); (try clear hb2); (try clear hk); (try clear hi); have hcz13_0 : w12.cell? ⟨gb118, 0, none⟩ = some (.int .i64 0) := (blk_cell BK118.out 0).trans rfl; have hcz13_1 : w12.cell? ⟨gb118, 1, none⟩ = some (.int .i64 0) := (blk_cell BK118.out 1).trans rfl; have hfz13_0 := blk_frozen BK118.out 0; have hfz13_1 := blk_frozen BK118.out 1))
    refine bodyPost_ret (results_ct rfl _ _ gb118 27 #[.int .i64 t121, .int .i64 t122] (0, 0) _ rfl (by (with_reducible repeat (first | refine blk_drewN ?_ _ | refine blk_drew ?_ | refine blk_alloc ?_ _)); refine blk_put (cs := #[.int .i64 t121, .int .i64 0]) ?_ 1 _ rfl; (with_reducible repeat (first | refine blk_drewN ?_ _ | refine blk_drew ?_ | refine blk_alloc ?_ _)); refine blk_put (cs := #[.int .i64 0, .int .i64 0]) ?_ 0 _ rfl; (with_reducible repeat (first | refine blk_drewN ?_ _ | refine blk_drew ?_ | refine blk_alloc ?_ _)); exact BK118.out) Try.underlying27 rfl (by kernel_rfl)) rfl ?_
    exact ⟨by first | rfl | (simp [errW_none, errW_some] <;> rfl) | (simp [*, errW_none, errW_some] <;> rfl), by repeat (first | (with_reducible first | exact HB.out | apply below_alloc | apply pw_below_drewN | apply below_drew1 | refine below_set ?_ GE118.out) | exact HB.out)⟩
   ·replace c9 := Bool.eq_false_iff.mpr c9
    subst c9
    have H1 : (some (0, 0, 2)) = some (r1, r2, r3) := by rw [if_neg (show ¬ (false = true) by decide)] at H; exact H
    clear H
    have H := H1
    clear H1
    simp only [Option.some.injEq, Prod.mk.injEq] at H
    obtain ⟨rfl, rfl, rfl⟩ := H
    go_enter Try.func30, Try.ntmps30
    go_wp2_with (first | ((with_reducible refine gate_dst (N := 4) rfl ?_); refine box_event ?hg (N := 4) ?hd (cs := #[.int .i64 0, .int .i64 0]) (t := 27) ?hr ?_; (case hd => rfl); (case hg => rfl); (case hr => first | (go_simp; done) | (go_simp; rfl)); intro gb118 hg w14 hbox hb; have n0_ := Aside0.mk (below_step (by repeat (first | (with_reducible first | exact HB.out | apply below_alloc | apply pw_below_drewN | apply below_drew1) | exact HB.out)) hb); have n1_ := Aside0.mk (hbox); have n2_ := Aside0.mk ((by rw [hg]; exact (below_size (by repeat (first | (with_reducible first | exact HB.out | apply below_alloc | apply pw_below_drewN | apply below_drew1) | exact HB.out))) : w.heap.size ≤ gb118)); have n3_ := Aside0.mk ((by rw [hg]; exact (below_size (by repeat (first | (with_reducible first | exact HB.out | apply below_alloc | apply pw_below_drewN | apply below_drew1) | exact HB.out))) : w.heap.size ≤ gb118)); clear HB; have HB := n0_; have BK118 := n1_; have GW118 := n2_; have GE118 := n3_; clear n0_ n1_ n2_ n3_; clear hb hbox hg) | (go_at_call 39; (with_reducible refine (fraction_Make_1.calls a0 true _ A6.out).mono ?_); rintro e w' ⟨rfl, ⟨nd, rfl⟩⟩; (try (rw [drewN_self w14]; generalize hq_ : World.drewN w14 _ = w14; have n0_ : Aside0 (w14.heap[gb118]? = some (.cells #[.int .i64 0, .int .i64 0] 27 (0, 0))) := ⟨by rw [← hq_]; exact (by (with_reducible repeat (first | refine blk_drewN ?_ _ | refine blk_drew ?_ | refine blk_alloc ?_ _)); exact BK118.out)⟩; have n1_ : Aside0 (Below w.heap.size w w14) := ⟨by rw [← hq_]; exact (by repeat (first | (with_reducible first | exact HB.out | apply below_alloc | apply pw_below_drewN | apply below_drew1 | refine below_set ?_ GE118.out) | exact HB.out))⟩; clear BK118 HB hq_; have BK118 := n0_; have HB := n1_; clear n0_ n1_))) | (go_at_call 39; (with_reducible refine (fraction_Make_1.calls a1 false _ A8.out).mono ?_); rintro e w' ⟨rfl, ⟨nd, rfl⟩⟩; (try (rw [drewN_self w14]; generalize hq_ : World.drewN w14 _ = w14; have n0_ : Aside0 (w14.heap[gb118]? = some (.cells #[.int .i64 0, .int .i64 0] 27 (0, 0))) := ⟨by rw [← hq_]; exact (by (with_reducible repeat (first | refine blk_drewN ?_ _ | refine blk_drew ?_ | refine blk_alloc ?_ _)); exact BK118.out)⟩; have n1_ : Aside0 (Below w.heap.size w w14) := ⟨by rw [← hq_]; exact (by repeat (first | (with_reducible first | exact HB.out | apply below_alloc | apply pw_below_drewN | apply below_drew1 | refine below_set ?_ GE118.out) | exact HB.out))⟩; clear BK118 HB hq_; have BK118 := n0_; have HB := n1_; clear n0_ n1_)); have hcz15_0 : w14.cell? ⟨gb118, 0, none⟩ = some (.int .i64 0) := (blk_cell BK118.out 0).trans rfl; have hcz15_1 : w14.cell? ⟨gb118, 1, none⟩ = some (.int .i64 0) := (blk_cell BK118.out 1).trans rfl; have hfz15_0 := blk_frozen BK118.out 0; have hfz15_1 := blk_frozen BK118.out 1))
    refine bodyPost_ret (results_ct rfl _ _ gb118 27 #[.int .i64 0, .int .i64 0] (0, 0) _ rfl (by (with_reducible repeat (first | refine blk_drewN ?_ _ | refine blk_drew ?_ | refine blk_alloc ?_ _)); refine blk_put (cs := #[.int .i64 0, .int .i64 0]) ?_ 1 _ rfl; (with_reducible repeat (first | refine blk_drewN ?_ _ | refine blk_drew ?_ | refine blk_alloc ?_ _)); refine blk_put (cs := #[.int .i64 0, .int .i64 0]) ?_ 0 _ rfl; (with_reducible repeat (first | refine blk_drewN ?_ _ | refine blk_drew ?_ | refine blk_alloc ?_ _)); exact BK118.out) Try.underlying27 rfl (by kernel_rfl)) rfl ?_
    exact ⟨by first | rfl | (simp [errW_none, errW_some] <;> rfl) | (simp [*, errW_none, errW_some] <;> rfl), by repeat (first | (with_reducible first | exact HB.out | apply below_alloc | apply pw_below_drewN | apply below_drew1 | refine below_set ?_ GE118.out) | exact HB.out)⟩
  ·replace c7 := Bool.eq_false_iff.mpr c7
   subst c7
   have H1 : (some (0, 0, 2)) = some (r1, r2, r3) := by rw [if_neg (show ¬ (false = true) by decide)] at H; exact H
   clear H
   have H := H1
   clear H1
   simp only [Option.some.injEq, Prod.mk.injEq] at H
   obtain ⟨rfl, rfl, rfl⟩ := H
   go_enter Try.func30, Try.ntmps30
   go_wp2_with (first | ((with_reducible refine gate_dst (N := 4) rfl ?_); refine box_event ?hg (N := 4) ?hd (cs := #[.int .i64 0, .int .i64 0]) (t := 27) ?hr ?_; (case hd => rfl); (case hg => rfl); (case hr => first | (go_simp; done) | (go_simp; rfl)); intro gb118 hg w16 hbox hb; have n0_ := Aside0.mk (below_step (by repeat (first | (with_reducible first | exact HB.out | apply below_alloc | apply pw_below_drewN | apply below_drew1) | exact HB.out)) hb); have n1_ := Aside0.mk (hbox); have n2_ := Aside0.mk ((by rw [hg]; exact (below_size (by repeat (first | (with_reducible first | exact HB.out | apply below_alloc | apply pw_below_drewN | apply below_drew1) | exact HB.out))) : w.heap.size ≤ gb118)); have n3_ := Aside0.mk ((by rw [hg]; exact (below_size (by repeat (first | (with_reducible first | exact HB.out | apply below_alloc | apply pw_below_drewN | apply below_drew1) | exact HB.out))) : w.heap.size ≤ gb118)); clear HB; have HB := n0_; have BK118 := n1_; have GW118 := n2_; have GE118 := n3_; clear n0_ n1_ n2_ n3_; clear hb hbox hg) | (go_at_call 39; (with_reducible refine (fraction_Make_1.calls a0 false _ A6.out).mono ?_); rintro e w' ⟨rfl, ⟨nd, rfl⟩⟩; (try (rw [drewN_self w16]; generalize hq_ : World.drewN w16 _ = w16; have n0_ : Aside0 (w16.heap[gb118]? = some (.cells #[.int .i64 0, .int .i64 0] 27 (0, 0))) := ⟨by rw [← hq_]; exact (by (with_reducible repeat (first | refine blk_drewN ?_ _ | refine blk_drew ?_ | refine blk_alloc ?_ _)); exact BK118.out)⟩; have n1_ : Aside0 (Below w.heap.size w w16) := ⟨by rw [← hq_]; exact (by repeat (first | (with_reducible first | exact HB.out | apply below_alloc | apply pw_below_drewN | apply below_drew1 | refine below_set ?_ GE118.out) | exact HB.out))⟩; clear BK118 HB hq_; have BK118 := n0_; have HB := n1_; clear n0_ n1_)); have hcz17_0 : w16.cell? ⟨gb118, 0, none⟩ = some (.int .i64 0) := (blk_cell BK118.out 0).trans rfl; have hcz17_1 : w16.cell? ⟨gb118, 1, none⟩ = some (.int .i64 0) := (blk_cell BK118.out 1).trans rfl; have hfz17_0 := blk_frozen BK118.out 0; have hfz17_1 := blk_frozen BK118.out 1))
   refine bodyPost_ret (results_ct rfl _ _ gb118 27 #[.int .i64 0, .int .i64 0] (0, 0) _ rfl (by (with_reducible repeat (first | refine blk_drewN ?_ _ | refine blk_drew ?_ | refine blk_alloc ?_ _)); refine blk_put (cs := #[.int .i64 0, .int .i64 0]) ?_ 1 _ rfl; (with_reducible repeat (first | refine blk_drewN ?_ _ | refine blk_drew ?_ | refine blk_alloc ?_ _)); refine blk_put (cs := #[.int .i64 0, .int .i64 0]) ?_ 0 _ rfl; (with_reducible repeat (first | refine blk_drewN ?_ _ | refine blk_drew ?_ | refine blk_alloc ?_ _)); exact BK118.out) Try.underlying27 rfl (by kernel_rfl)) rfl ?_
   exact ⟨by first | rfl | (simp [errW_none, errW_some] <;> rfl) | (simp [*, errW_none, errW_some] <;> rfl), by repeat (first | (with_reducible first | exact HB.out | apply below_alloc | apply pw_below_drewN | apply below_drew1 | refine below_set ?_ GE118.out) | exact HB.out)⟩

/-! ### deadlines_knots_1 (function 49), deadlines_knots (function 48), deadlines_linear (function 41): by hand -/
section
attribute [local go_sem] Oper.semAt_some
open Go.Shelf Go.Proofs.Ytbehhijmcnoeeaa.RangeN

def deadlines_linear.knots (l : List S34) : List S34 := if l.length = 0 then [⟨0, 100⟩] else if (rd_T34 l 0).f0 = 0 then l else ⟨0, 100⟩ :: l
def deadlines_linear.go (t : Int) : Bool → S34 → List S34 → Option Int
 | _, b, [] => some (wrap64 (100 * b.f1))
 | first, b, k :: ks => if first = false ∧ t < k.f0 then (if wrap64 (k.f0 - b.f0) = 0 then none else some (wrap64 (Int.tdiv (wrap64 (100 * wrap64 (wrap64 (b.f1 * wrap64 (k.f0 - t)) + wrap64 (k.f1 * wrap64 (t - b.f0))))) (wrap64 (k.f0 - b.f0))))) else deadlines_linear.go t false k ks
def deadlines_linear.f (_a0_0 : Int) (_a0_1 : Int) (_a0_2 : Bool) (l0_3 : List S34) (a1 : Int) : Option Int := deadlines_linear.go a1 true z34 (deadlines_linear.knots l0_3)

/-- The value that a knot is handed over as. -/
def deadlines_linear.enc (x : S34) : Value := .agg #[.int .i64 x.f0, .int .i64 x.f1]
/-- What the rounds keep for the iterator: all that lay before the loop's function, and the box of the policy. -/
def deadlines_linear.Kp (n₀ Bs : Nat) (W W' : World) : Prop := Below n₀ W W' ∧ W'.heap[Bs]? = W.heap[Bs]?
/-- The iterator's own steps: new blocks alone. -/
def deadlines_linear.Kq (_B : Nat) (W W' : World) : Prop := Below W.heap.size W W'

theorem deadlines_linear.knots_len (l : List S34) : (deadlines_linear.knots l).length ≤ l.length + 1 := by
 unfold deadlines_linear.knots
 split
 ·simp
 ·split <;> simp

set_option maxRecDepth 100000 in
set_option maxHeartbeats 4000000 in
theorem deadlines_knots_1.stops (F : Fence) (n : Nat) (h49 : F.fn 49) (hro : F.round = none) (hn : 1 ≤ n) (Bs n₀ : Nat) (a0_0 a0_1 : Int) (a0_2 : Bool) (A : Option Addr) (c : Nat) (ls : List S34) (w0 w : World)
  (hC : Kd.C k34 w0 A ls.length ls) (hB : Below w0.heap.size w0 w) (hn₀ : w0.heap.size ≤ n₀) (hBs : Bs < w.heap.size) (hn₁ : n₀ ≤ w.heap.size)
  (hb : w.heap[Bs]? = some (.cells #[.int .i64 a0_0, .int .i64 a0_1, .bool a0_2, .slice A ls.length c] 24 (0, 0))) :
  SeqN F n Try.prog 49 #[.pointer (some ⟨Bs, 0, none⟩)] (fun k => #[deadlines_linear.enc (rd_T34 (deadlines_linear.knots ls) k)]) (deadlines_linear.Kp n₀ Bs) deadlines_linear.Kq (deadlines_linear.knots ls).length w := by
 intro l J Jx W hW hJ hJx hY h0
 have hu24 := Try.underlying24
 have hu34 := Try.underlying34
 have hlen : ls.length ≤ 9223372036854775807 := hC.2.1
 have hbW : W.heap[Bs]? = some (.cells #[.int .i64 a0_0, .int .i64 a0_1, .bool a0_2, .slice A ls.length c] 24 (0, 0)) := (hW.block Bs hBs).trans hb
 have hBW : Below w0.heap.size w0 W := hB.trans (hW.mono (Nat.le_trans hn₀ hn₁))
 have hcz3 : W.cell? ⟨Bs, 3, none⟩ = some (.slice A ls.length c) := (blk_cell hbW 3).trans rfl
 have HC := Aside0.mk hC
 have HbW := Aside0.mk hbW
 have HBW := Aside0.mk hBW
 have HY := Aside0.mk hY
 have HJ := Aside0.mk hJ
 clear hC hbW hBW hY hJ hJx hb hB hW
 refine callsIn_of_wp Try.func49 rfl h49 ?_ hro
 simp only [Try.ntmps49, List.size_toArray, List.length_cons, List.length_nil, Nat.reduceAdd, Nat.reduceSub, Array.replicate_succ, Array.replicate_zero, List.push_toArray, List.append_toArray, List.nil_append, List.cons_append]
 by_cases hl0 : ls.length = 0
 ·-- no steps: one knot
  have hk : deadlines_linear.knots ls = [⟨0, 100⟩] := by unfold deadlines_linear.knots; rw [if_pos hl0]
  obtain ⟨fn, tmps, assign, body, hy, hR⟩ := HY.out 0 W h0 (by rw [hk]; decide)
  have hy' : (Instr.yield l #[.agg #[.int .i64 0, .int .i64 100]]).run Try.prog W = .ok (.round l fn tmps assign body) W := by rw [hk] at hy; exact hy
  have HK : Aside0 (deadlines_linear.knots ls = [⟨0, 100⟩]) := ⟨hk⟩
  clear hy hk
  have hl1 : ((ls.length : Int) == 0) = true := by simp [hl0]
  have HL0 : Aside0 (ls.length = 0) := ⟨hl0⟩
  clear hl0
  gi_wp2
  refine hR.mono ?_
  rintro e W3 (⟨rfl, hJ3, hk3⟩ | ⟨rfl, hJx3⟩)
  ·have hcz3' : W3.cell? ⟨Bs, 3, none⟩ = some (.slice A ls.length c) := (blk_cell (hk3.2.trans HbW.out) 3).trans rfl
   have HK3 := Aside0.mk hk3
   clear hk3
   gi_wp2
   gi_loopw [24] (fun i wr => i = .int .i64 0 ∧ J 1 wr) (fun _ _ => 0)
   case atStart => exact ⟨rfl, hJ3⟩
   case round =>
    obtain ⟨rfl, hJs⟩ := hrel
    have hlt : decide ((0 : Int) < ls.length) = false := by have := HL0.out; simp [this]
    have hlt' : decide (0 < ls.length) = false := by have := HL0.out; simp [this]
    gi_wp2
    go_end0
    exact ⟨⟨_, rfl⟩, .inl (by rw [HK.out]; exact hJs)⟩
  ·gi_wp2
   refine bodyPost_ret (results_none rfl _ _ _) rfl ?_
   exact ⟨⟨_, rfl⟩, .inr ⟨1, by rw [HK.out]; exact Nat.le_refl _, hJx3⟩⟩
 ·have hpos : 0 < ls.length := by omega
  have hl1 : ((ls.length : Int) == 0) = false := beq_eq_false_iff_ne.2 (by omega)
  obtain ⟨ad, rfl, hx0, hx1⟩ := at_T34 HC.out 0 (Int.le_refl 0) (by exact_mod_cast hpos)
  replace hx0 := (HBW.out.cell (World.block_lt_of_cell? w0 _ hx0)).trans hx0
  replace hx1 := (HBW.out.cell (World.block_lt_of_cell? w0 _ hx1)).trans hx1
  simp only [Int.toNat_zero, Nat.zero_mul, show ad.add 0 = ad from rfl] at hx0 hx1
  have hp0 : (0 : Int) < ls.length := by omega
  by_cases hf : (rd_T34 ls 0).f0 = 0
  ·-- the first step is the first knot
   have hk : deadlines_linear.knots ls = ls := by unfold deadlines_linear.knots; rw [if_neg hl0, if_pos hf]
   have hne : ((rd_T34 ls 0).f0 != 0) = false := by simp [hf]
   have HK : Aside0 (deadlines_linear.knots ls = ls) := ⟨hk⟩
   clear hk hf hl0
   gi_wp2
   gi_loopw [24] (fun i wr => ∃ x : Nat, x ≤ ls.length ∧ i = .int .i64 x ∧ J x wr ∧ Aside0 (Below w0.heap.size w0 wr)) (fun i _ => ls.length - (intOf i).toNat)
   case atStart => exact ⟨0, Nat.zero_le _, rfl, h0, HBW⟩
   case round =>
    obtain ⟨x, hx, rfl, hJs, hBs⟩ := hrel
    clear hx0 hx1 hcz3 hne
    by_cases hlt : x < ls.length
    ·obtain ⟨ad', e', hy0, hy1⟩ := at_T34 HC.out x (by omega) (by omega)
     cases e'
     replace hy0 := (hBs.out.cell (World.block_lt_of_cell? w0 _ hy0)).trans hy0
     replace hy1 := (hBs.out.cell (World.block_lt_of_cell? w0 _ hy1)).trans hy1
     simp only [Int.toNat_natCast] at hy0 hy1
     have hJ2 := HJ.out x wr (wr.alloc (.cells #[.int .i64 (rd_T34 ls x).f0, .int .i64 (rd_T34 ls x).f1] 34)) ((Below.refl _ _).alloc (Nat.le_refl _) _) hJs
     obtain ⟨fn, tmps, assign, body, hy, hR⟩ := HY.out x _ hJ2 (by rw [HK.out]; exact hlt)
     have hy' : (Instr.yield l #[.agg #[.int .i64 (rd_T34 ls x).f0, .int .i64 (rd_T34 ls x).f1]]).run Try.prog (wr.alloc (.cells #[.int .i64 (rd_T34 ls x).f0, .int .i64 (rd_T34 ls x).f1] 34)) = .ok (.round l fn tmps assign body) (wr.alloc (.cells #[.int .i64 (rd_T34 ls x).f0, .int .i64 (rd_T34 ls x).f1] 34)) := by rw [HK.out] at hy; exact hy
     clear hy
     have hlt' : (x : Int) < ls.length := by omega
     gi_wp2
     refine hR.mono ?_
     rintro e W3 (⟨rfl, hJ3, hk3⟩ | ⟨rfl, hJx3⟩)
     ·have HB3 := Aside0.mk ((hBs.out.alloc (hBs.out.size) (.cells #[.int .i64 (rd_T34 ls x).f0, .int .i64 (rd_T34 ls x).f1] 34)).trans (hk3.1.mono hn₀))
      clear hk3
      gi_wp2
      go_roundw
      case rel => exact ⟨x + 1, by omega, by simp, hJ3, HB3⟩
      case measure => simp [intOf]; omega
     ·gi_wp2
      refine bodyPost_ret (results_none rfl _ _ _) rfl ?_
      exact ⟨⟨_, rfl⟩, .inr ⟨x + 1, by rw [HK.out]; omega, hJx3⟩⟩
    ·obtain rfl : x = ls.length := by omega
     gi_wp2
     go_end0
     exact ⟨⟨_, rfl⟩, .inl (by rw [HK.out]; exact hJs)⟩
  ·have hk : deadlines_linear.knots ls = ⟨0, 100⟩ :: ls := by unfold deadlines_linear.knots; rw [if_neg hl0, if_neg hf]
   have hne : ((rd_T34 ls 0).f0 != 0) = true := by simp [hf]
   have HK : Aside0 (deadlines_linear.knots ls = ⟨0, 100⟩ :: ls) := ⟨hk⟩
   obtain ⟨fn, tmps, assign, body, hy, hR⟩ := HY.out 0 W h0 (by rw [hk]; simp)
   have hy' : (Instr.yield l #[.agg #[.int .i64 0, .int .i64 100]]).run Try.prog W = .ok (.round l fn tmps assign body) W := by rw [hk] at hy; exact hy
   clear hk hf hl0 hy
   gi_wp2
   refine hR.mono ?_
   rintro e W3 (⟨rfl, hJ3, hk3⟩ | ⟨rfl, hJx3⟩)
   ·have hcz3' : W3.cell? ⟨Bs, 3, none⟩ = some (.slice (some ad) ls.length c) := (blk_cell (hk3.2.trans HbW.out) 3).trans rfl
    have HBW3 := Aside0.mk (HBW.out.trans (hk3.1.mono hn₀))
    clear hk3 hy' hR hne hx0 hx1 hcz3
    gi_wp2
    gi_loopw [24] (fun i wr => ∃ x : Nat, x ≤ ls.length ∧ i = .int .i64 x ∧ J (x + 1) wr ∧ Aside0 (Below w0.heap.size w0 wr)) (fun i _ => ls.length - (intOf i).toNat)
    case atStart => exact ⟨0, Nat.zero_le _, rfl, hJ3, HBW3⟩
    case round =>
     obtain ⟨x, hx, rfl, hJs, hBs⟩ := hrel
     clear hcz3'
     by_cases hlt : x < ls.length
     ·obtain ⟨ad', e', hy0, hy1⟩ := at_T34 HC.out x (by omega) (by omega)
      cases e'
      replace hy0 := (hBs.out.cell (World.block_lt_of_cell? w0 _ hy0)).trans hy0
      replace hy1 := (hBs.out.cell (World.block_lt_of_cell? w0 _ hy1)).trans hy1
      simp only [Int.toNat_natCast] at hy0 hy1
      have hJ2 := HJ.out (x + 1) wr (wr.alloc (.cells #[.int .i64 (rd_T34 ls x).f0, .int .i64 (rd_T34 ls x).f1] 34)) ((Below.refl _ _).alloc (Nat.le_refl _) _) hJs
      obtain ⟨fn, tmps, assign, body, hy, hR⟩ := HY.out (x + 1) _ hJ2 (by rw [HK.out]; simp; exact hlt)
      have hy' : (Instr.yield l #[.agg #[.int .i64 (rd_T34 ls x).f0, .int .i64 (rd_T34 ls x).f1]]).run Try.prog (wr.alloc (.cells #[.int .i64 (rd_T34 ls x).f0, .int .i64 (rd_T34 ls x).f1] 34)) = .ok (.round l fn tmps assign body) (wr.alloc (.cells #[.int .i64 (rd_T34 ls x).f0, .int .i64 (rd_T34 ls x).f1] 34)) := by rw [HK.out] at hy; exact hy
      clear hy
      have hlt' : (x : Int) < ls.length := by omega
      gi_wp2
      refine hR.mono ?_
      rintro e W3 (⟨rfl, hJ3, hk3⟩ | ⟨rfl, hJx3⟩)
      ·have HB3 := Aside0.mk ((hBs.out.alloc (hBs.out.size) (.cells #[.int .i64 (rd_T34 ls x).f0, .int .i64 (rd_T34 ls x).f1] 34)).trans (hk3.1.mono hn₀))
       clear hk3
       gi_wp2
       go_roundw
       case rel => exact ⟨x + 1, by omega, by simp, hJ3, HB3⟩
       case measure => simp [intOf]; omega
      ·gi_wp2
       refine bodyPost_ret (results_none rfl _ _ _) rfl ?_
       exact ⟨⟨_, rfl⟩, .inr ⟨x + 1 + 1, by rw [HK.out]; simp; omega, hJx3⟩⟩
     ·obtain rfl : x = ls.length := by omega
      gi_wp2
      go_end0
      exact ⟨⟨_, rfl⟩, .inl (by rw [HK.out]; exact hJs)⟩
   ·gi_wp2
    refine bodyPost_ret (results_none rfl _ _ _) rfl ?_
    exact ⟨⟨_, rfl⟩, .inr ⟨1, by rw [HK.out]; simp, hJx3⟩⟩

set_option maxHeartbeats 1000000 in
theorem deadlines_knots.in_ (F : Fence) (n : Nat) (h48 : F.fn 48) (hro : F.round = none) (v0 v1 v2 v3 : Value) (w : World) :
  CallsIn F n Try.prog 48 #[.agg #[v0, v1, v2, v3]] w fun e w' => e = .returned (.func (.func 49) #[] #[.pointer (some ⟨w.heap.size, 0, none⟩)]) ∧ w' = w.alloc (.cells #[v0, v1, v2, v3] 24) := by
 have hu24 := Try.underlying24
 refine callsIn_of_wp Try.func48 rfl h48 ?_ hro
 simp only [Try.ntmps48, List.size_toArray, List.length_cons, List.length_nil, Nat.reduceAdd, Nat.reduceSub, Array.replicate_succ, Array.replicate_zero, List.push_toArray, List.append_toArray, List.nil_append, List.cons_append]
 gi_wp2
 go_ret
 exact ⟨rfl, rfl⟩

/-- What the loop of linear holds between two rounds. -/
structure deadlines_linear.St (w W : World) (p : Array Value) (t r : Int) (b : S34) (first : Bool) : Prop where
 t : W.heap[w.heap.size + 1]? = some (.cells #[.int .i64 t] 3 (0, 0))
 o : W.heap[w.heap.size + 1 + 1]? = some (.cells #[.int .i64 r] 3 (0, 0))
 b : W.heap[w.heap.size + 1 + 1 + 1]? = some (.cells #[.int .i64 b.f0, .int .i64 b.f1] 34 (0, 0))
 f : W.heap[w.heap.size + 1 + 1 + 1 + 1]? = some (.cells #[.bool first] 4 (0, 0))
 p : W.heap[w.heap.size + 1 + 1 + 1 + 1 + 1]? = some (.cells p 24 (0, 0))
 below : Below w.heap.size w W
theorem deadlines_linear.St.turn {w W W' : World} {p : Array Value} {t r : Int} {b : S34} {first : Bool} (h : deadlines_linear.St w W p t r b first) (hk : ∀ k, k < w.heap.size + 6 → W'.heap[k]? = W.heap[k]?) (hb : Below w.heap.size w W') : deadlines_linear.St w W' p t r b first :=
 ⟨(hk _ (by omega)).trans h.t, (hk _ (by omega)).trans h.o, (hk _ (by omega)).trans h.b, (hk _ (by omega)).trans h.f, (hk _ (by omega)).trans h.p, hb⟩
theorem deadlines_linear.St.lt {w W : World} {p : Array Value} {t r : Int} {b : S34} {first : Bool} (h : deadlines_linear.St w W p t r b first) : w.heap.size + 6 ≤ W.heap.size := by
 have := blk_lt h.p; omega

theorem deadlines_linear.St.next {w W : World} {p : Array Value} {t r : Int} {b : S34} {first : Bool} (h : deadlines_linear.St w W p t r b first) (x : S34) :
  deadlines_linear.St w (((W.setCell ⟨w.heap.size + 1 + 1 + 1, 0, none⟩ (.int .i64 x.f0)).setCell ⟨w.heap.size + 1 + 1 + 1, 1, none⟩ (.int .i64 x.f1)).setCell ⟨w.heap.size + 1 + 1 + 1 + 1, 0, none⟩ (.bool false)) p t r x false :=
 ⟨blk_far (blk_far (blk_far h.t (by simp <;> omega) _) (by simp <;> omega) _) (by simp <;> omega) _,
 blk_far (blk_far (blk_far h.o (by simp) _) (by simp) _) (by simp <;> omega) _,
 blk_far (blk_set (blk_set h.b 0 _) 1 _) (by simp) _,
 blk_set (blk_far (blk_far h.f (by simp) _) (by simp) _) 0 _,
 blk_far (blk_far (blk_far h.p (by simp <;> omega) _) (by simp <;> omega) _) (by simp) _,
 ((h.below.setCell (p := ⟨w.heap.size + 1 + 1 + 1, 0, none⟩) (by simp <;> omega) _).setCell (p := ⟨w.heap.size + 1 + 1 + 1, 1, none⟩) (by simp <;> omega) _).setCell (p := ⟨w.heap.size + 1 + 1 + 1 + 1, 0, none⟩) (by simp <;> omega) _⟩
theorem deadlines_linear.keeps {w W : World} {B : Nat} (hB : w.heap.size + 1 + 1 + 1 + 1 + 1 < B) (u v z : Value) :
  Keep2 B W (((W.setCell ⟨w.heap.size + 1 + 1 + 1, 0, none⟩ u).setCell ⟨w.heap.size + 1 + 1 + 1, 1, none⟩ v).setCell ⟨w.heap.size + 1 + 1 + 1 + 1, 0, none⟩ z) ∧
  deadlines_linear.Kp w.heap.size (w.heap.size + 1 + 1 + 1 + 1 + 1) W (((W.setCell ⟨w.heap.size + 1 + 1 + 1, 0, none⟩ u).setCell ⟨w.heap.size + 1 + 1 + 1, 1, none⟩ v).setCell ⟨w.heap.size + 1 + 1 + 1 + 1, 0, none⟩ z) :=
 ⟨((Keep2.setCell _ _ _ (by simp <;> omega)).trans (Keep2.setCell _ _ _ (by simp <;> omega))).trans (Keep2.setCell _ _ _ (by simp <;> omega)),
 (((Below.refl _ W).setCell (p := ⟨w.heap.size + 1 + 1 + 1, 0, none⟩) (by simp <;> omega) _).setCell (p := ⟨w.heap.size + 1 + 1 + 1, 1, none⟩) (by simp <;> omega) _).setCell (p := ⟨w.heap.size + 1 + 1 + 1 + 1, 0, none⟩) (by simp <;> omega) _,
 (Below.heap_setCell _ _ _ _ (by simp)).trans ((Below.heap_setCell _ _ _ _ (by simp <;> omega)).trans (Below.heap_setCell _ _ _ _ (by simp <;> omega)))⟩

def deadlines_linear.bef (kn : List S34) (k : Nat) : S34 := if k = 0 then z34 else rd_T34 kn ((k - 1 : Nat) : Int)

theorem deadlines_linear.go_step (t : Int) (kn : List S34) (k : Nat) (hk : k < kn.length) (b : S34) (first : Bool) :
  deadlines_linear.go t first b (kn.drop k) = (if first = false ∧ t < (rd_T34 kn k).f0 then (if wrap64 ((rd_T34 kn k).f0 - b.f0) = 0 then none else some (wrap64 (Int.tdiv (wrap64 (100 * wrap64 (wrap64 (b.f1 * wrap64 ((rd_T34 kn k).f0 - t)) + wrap64 ((rd_T34 kn k).f1 * wrap64 (t - b.f0))))) (wrap64 ((rd_T34 kn k).f0 - b.f0))))) else deadlines_linear.go t false (rd_T34 kn k) (kn.drop (k + 1))) := by
 have : kn.drop k = rd_T34 kn k :: kn.drop (k + 1) := by
  rw [List.drop_eq_getElem_cons hk]
  simp [rd_T34, List.getD, List.getElem?_eq_getElem hk]
 rw [this]
 rfl

set_option maxRecDepth 100000 in
set_option maxHeartbeats 4000000 in
theorem deadlines_linear.in_ (F : Fence) (n : Nat) (h41 : F.fn 41) (h48 : F.fn 48) (h49 : F.fn 49) (hro : F.round = none) (hn : 3 ≤ n) (a0_0 : Int) (a0_1 : Int) (a0_2 : Bool) (A0_3 : Option Addr) (c0_3 : Nat) (l0_3 : List (S34)) (a1 : Int) (r : Int) (w : World) (hr0_3 : Kd.C k34 w A0_3 l0_3.length l0_3) (h : deadlines_linear.f a0_0 a0_1 a0_2 l0_3 a1 = some r) :
  CallsIn F n Try.prog 41 #[.agg #[.int .i64 a0_0, .int .i64 a0_1, .bool a0_2, .slice A0_3 l0_3.length c0_3], .int .i64 a1] w fun e w' => e = .returned (.int .i64 r) ∧ Below w.heap.size w w' := by
 have hu24 := Try.underlying24
 have hu34 := Try.underlying34
 have h1 : 1 ≤ n := by omega
 obtain ⟨kn, hkn⟩ : ∃ kn, kn = deadlines_linear.knots l0_3 := ⟨_, rfl⟩
 have H : Aside0 (deadlines_linear.go a1 true z34 kn = some r) := ⟨by rw [hkn]; exact h⟩
 have HN := Aside0.mk hkn
 have HC := Aside0.mk hr0_3
 clear h hr0_3 hkn
 refine callsIn_of_wp_marks Try.func41 rfl h41 ?_ hro
 simp only [Try.ntmps41, List.size_toArray, List.length_cons, List.length_nil, Nat.reduceAdd, Nat.reduceSub, Array.replicate_succ, Array.replicate_zero, List.push_toArray, List.append_toArray, List.nil_append, List.cons_append]
 gi_wp2_with (gi_at_call 48; refine (deadlines_knots.in_ F (n - 1) h48 hro _ _ _ _ _).mono ?_; rintro e w' ⟨rfl, rfl⟩)
 obtain ⟨W5, hW5⟩ : ∃ W5, ((((((w.alloc (.cells #[.int .i64 a0_0, .int .i64 a0_1, .bool a0_2, .slice A0_3 l0_3.length c0_3] 24)).alloc (.cells #[.int .i64 a1] 3)).alloc (.cells #[.int .i64 0] 3)).alloc (.cells #[.int .i64 0, .int .i64 0] 34)).alloc (.cells #[.bool true] 4)).alloc (.cells #[.int .i64 a0_0, .int .i64 a0_1, .bool a0_2, .slice A0_3 l0_3.length c0_3] 24)) = W5 := ⟨_, rfl⟩
 have hsz : W5.heap.size = w.heap.size + 6 := by rw [← hW5]; simp
 have hB5 : Below w.heap.size w W5 := by
  rw [← hW5]
  exact ((((((Below.refl _ w).alloc (Nat.le_refl _) _).alloc (by simp) _).alloc (by simp <;> omega) _).alloc (by simp <;> omega) _).alloc (by simp <;> omega) _).alloc (by simp <;> omega) _
 have hS5 : deadlines_linear.St w W5 #[.int .i64 a0_0, .int .i64 a0_1, .bool a0_2, .slice A0_3 l0_3.length c0_3] a1 0 z34 true := by
  refine ⟨?_, ?_, ?_, ?_, ?_, hB5⟩ <;> rw [← hW5]
  ·refine blk_alloc (blk_alloc (blk_alloc (blk_alloc ?_ _) _) _) _
   have := blk_new (w.alloc (.cells #[.int .i64 a0_0, .int .i64 a0_1, .bool a0_2, .slice A0_3 l0_3.length c0_3] 24)) (.cells #[.int .i64 a1] 3)
   simpa using this
  ·refine blk_alloc (blk_alloc (blk_alloc ?_ _) _) _
   have := blk_new ((w.alloc (.cells #[.int .i64 a0_0, .int .i64 a0_1, .bool a0_2, .slice A0_3 l0_3.length c0_3] 24)).alloc (.cells #[.int .i64 a1] 3)) (.cells #[.int .i64 0] 3)
   simpa using this
  ·refine blk_alloc (blk_alloc ?_ _) _
   have := blk_new (((w.alloc (.cells #[.int .i64 a0_0, .int .i64 a0_1, .bool a0_2, .slice A0_3 l0_3.length c0_3] 24)).alloc (.cells #[.int .i64 a1] 3)).alloc (.cells #[.int .i64 0] 3)) (.cells #[.int .i64 0, .int .i64 0] 34)
   simpa [z34] using this
  ·refine blk_alloc ?_ _
   have := blk_new ((((w.alloc (.cells #[.int .i64 a0_0, .int .i64 a0_1, .bool a0_2, .slice A0_3 l0_3.length c0_3] 24)).alloc (.cells #[.int .i64 a1] 3)).alloc (.cells #[.int .i64 0] 3)).alloc (.cells #[.int .i64 0, .int .i64 0] 34)) (.cells #[.bool true] 4)
   simpa using this
  ·have := blk_new (((((w.alloc (.cells #[.int .i64 a0_0, .int .i64 a0_1, .bool a0_2, .slice A0_3 l0_3.length c0_3] 24)).alloc (.cells #[.int .i64 a1] 3)).alloc (.cells #[.int .i64 0] 3)).alloc (.cells #[.int .i64 0, .int .i64 0] 34)).alloc (.cells #[.bool true] 4)) (.cells #[.int .i64 a0_0, .int .i64 a0_1, .bool a0_2, .slice A0_3 l0_3.length c0_3] 24)
   simpa using this
 rw [hW5]
 clear hW5
 have hstops := deadlines_knots_1.stops F (n - 1) h49 hro (by omega) (w.heap.size + 1 + 1 + 1 + 1 + 1) w.heap.size a0_0 a0_1 a0_2 A0_3 c0_3 l0_3 w W5 HC.out hB5 (Nat.le_refl _) (by omega) (by omega) hS5.p
 rw [← HN.out] at hstops
 have HST := Aside0.mk hstops
 have HSZ := Aside0.mk hsz
 clear hstops hsz
 refine rangeN hro h1 (gf := 49) (lb := #[.pointer (some ⟨w.heap.size + 1 + 1 + 1 + 1 + 1, 0, none⟩)]) rfl h49 (enters_of Try.func49 (by kernel_rfl) rfl) HST.out (Below.refl _ _)
  (fun h k => ⟨h.1.trans k.1, k.2.trans h.2⟩)
  (fun W l o o' hl h _ => ⟨(Below.refl _ W).grown (grownBy_putObj' W l o') (by have := HSZ.out; have := blk_lt h; omega) (fun k e => by cases e; have := HSZ.out; omega), World.putObj_heap_other (by have := HSZ.out; omega)⟩)
  (fun A B hz hq k _ h2 => hq.block k (by omega)) (fun _ => rfl)
  (fun k W => deadlines_linear.St w W #[.int .i64 a0_0, .int .i64 a0_1, .bool a0_2, .slice A0_3 l0_3.length c0_3] a1 0 (deadlines_linear.bef kn k) (decide (k = 0)) ∧ deadlines_linear.go a1 true z34 kn = deadlines_linear.go a1 (decide (k = 0)) (deadlines_linear.bef kn k) (kn.drop k))
  (fun c _ W => c = .ret ∧ W.heap[w.heap.size + 1 + 1]? = some (.cells #[.int .i64 r] 3 (0, 0)) ∧ Below w.heap.size w W)
  ?iq ?ixq ?bi ?bix ⟨hS5, by simp [deadlines_linear.bef]⟩
  (fun k a' W => ∃ g, W5.heap.size + 2 ≤ g ∧ W.heap[g]? = some (.cells #[.int .i64 (rd_T34 kn k).f0, .int .i64 (rd_T34 kn k).f1] 34 (0, 0)) ∧
   (deadlines_linear.St w W #[.int .i64 a0_0, .int .i64 a0_1, .bool a0_2, .slice A0_3 l0_3.length c0_3] a1 0 (deadlines_linear.bef kn k) (decide (k = 0)) ∧ deadlines_linear.go a1 true z34 kn = deadlines_linear.go a1 (decide (k = 0)) (deadlines_linear.bef kn k) (kn.drop k)) ∧
   a' = { tmps := #[.agg #[.int .i64 a0_0, .int .i64 a0_1, .bool a0_2, .slice A0_3 l0_3.length c0_3], .int .i64 a1, .pointer (some ⟨w.heap.size, 0, none⟩), .pointer (some ⟨w.heap.size + 1, 0, none⟩), .pointer (some ⟨w.heap.size + 1 + 1, 0, none⟩), .pointer (some ⟨w.heap.size + 1 + 1 + 1, 0, none⟩), .pointer (some ⟨w.heap.size + 1 + 1 + 1 + 1, 0, none⟩), .pointer (some ⟨g, 0, none⟩), undef, undef, .agg #[.int .i64 a0_0, .int .i64 a0_1, .bool a0_2, .slice A0_3 l0_3.length c0_3], .func (.func 49) #[] #[.pointer (some ⟨w.heap.size + 1 + 1 + 1 + 1 + 1, 0, none⟩)], deadlines_linear.enc (rd_T34 kn k), undef, undef, undef, undef, undef, undef, undef, undef, undef, undef, undef, undef, undef, undef, undef, undef, undef, undef, undef, undef, undef, undef, undef, undef, undef, undef, undef, undef, undef, undef, undef, undef, undef, undef], defers := [] })
  ?bax ?assign ?body ?done ?stop
 case iq => exact fun k A B _ hq hs => ⟨hs.1.turn (fun k hk => hq.block k (by have := hs.1.lt; omega)) (hs.1.below.trans (hq.mono hs.1.below.size)), hs.2⟩
 case ixq => exact fun c k A B _ hq hs => ⟨hs.1, (hq.block _ (blk_lt hs.2.1)).trans hs.2.1, hs.2.2.trans (hq.mono hs.2.2.size)⟩
 case bi => exact fun k A B row hs hg hr => ⟨hs.1.turn (fun k hk => hg.block k (by have := hs.1.lt; omega) (fun e => by have := (hr k e.symm).1; have := HSZ.out; omega)) (hs.1.below.grown hg hs.1.below.size (fun k e => by have := (hr k e).1; have := HSZ.out; omega)), hs.2⟩
 case bix => exact fun c k A B row hs hg hr => ⟨hs.1, (hg.block _ (blk_lt hs.2.1) (fun e => by have := (hr _ e.symm).1; have := HSZ.out; omega)).trans hs.2.1, hs.2.2.grown hg hs.2.2.size (fun k e => by have := (hr k e).1; have := HSZ.out; omega)⟩
 case bax =>
  rintro a' k A B row ⟨g, hgl, hgb, hs, rfl⟩ hg hr
  refine ⟨g, hgl, (hg.block _ (blk_lt hgb) (fun e => ?_)).trans hgb, ⟨hs.1.turn (fun k hk => hg.block k (by have := hs.1.lt; omega) (fun e => by have := (hr k e.symm).1; have := HSZ.out; omega)) (hs.1.below.grown hg hs.1.below.size (fun k e => by have := (hr k e).1; have := HSZ.out; omega)), hs.2⟩, rfl⟩
  obtain ⟨_, o, ho, hc⟩ := hr _ e.symm
  rw [hgb] at ho
  cases ho
  cases hc
 case assign =>
  intro l k W K hi hk hz hK
  simp only [deadlines_linear.enc]
  gi_wp2
  exact hK _ _ ⟨W.heap.size, hz, blk_new _ _, ⟨hi.1.turn (fun k hk => Below.heap_alloc _ _ k (by have := hi.1.lt; omega)) (hi.1.below.alloc hi.1.below.size _), hi.2⟩, rfl⟩ (Keep2.alloc _ _ hz) ⟨(Below.refl _ W).alloc hi.1.below.size _, Below.heap_alloc _ _ _ (blk_lt hi.1.p)⟩
 case body =>
  rintro l k a' W ⟨g, hgl, hgb, ⟨hs, hgo⟩, rfl⟩ hk hz
  have hstep := deadlines_linear.go_step a1 kn k hk (deadlines_linear.bef kn k) (decide (k = 0))
  rw [← hgo, H.out] at hstep
  have HSTEP := Aside0.mk hstep
  clear hstep
  obtain ⟨x, hx⟩ : ∃ x, x = rd_T34 kn k := ⟨_, rfl⟩
  rw [← hx] at hgb HSTEP ⊢
  have hbk : deadlines_linear.bef kn (k + 1) = x := by rw [hx]; simp [deadlines_linear.bef]
  obtain ⟨b, hb⟩ : ∃ b, b = deadlines_linear.bef kn k := ⟨_, rfl⟩
  rw [← hb] at hs HSTEP
  have hcf := blk_cell hs.f 0
  have hct := blk_cell hs.t 0
  have hco := blk_cell hs.o 0
  have hcb0 := blk_cell hs.b 0
  have hcb1 := blk_cell hs.b 1
  have hcg0 := blk_cell hgb 0
  have hcg1 := blk_cell hgb 1
  have hff := blk_frozen hs.f 0
  have hfo := blk_frozen hs.o 0
  have hfb0 := blk_frozen hs.b 0
  have hfb1 := blk_frozen hs.b 1
  simp only [List.getElem?_toArray, List.getElem?_cons_zero, List.getElem?_cons_succ] at hcf hct hco hcb0 hcb1 hcg0 hcg1
  have HS := Aside0.mk hs
  have HGB := Aside0.mk hgb
  have HX := Aside0.mk hx
  have HBK := Aside0.mk hbk
  clear hs hgb hx hb hbk hgo
  simp only [deadlines_linear.enc]
  by_cases hk0 : k = 0
  ·have hd : decide (k = 0) = true := by simp [hk0]
   rw [hd] at hcf
   clear hd
   gi_wp2
   have hst := HSTEP.out
   rw [if_neg (by simp [hk0])] at hst
   have hkp := deadlines_linear.keeps (w := w) (W := W) (B := W5.heap.size) (by have := HSZ.out; omega) (.int .i64 x.f0) (.int .i64 x.f1) (.bool false)
   refine ⟨hkp.1, hkp.2, ?_, ?_⟩
   ·rw [HBK.out]; exact HS.out.next x
   ·rw [HBK.out, H.out, hst]; rfl
  ·have hd : decide (k = 0) = false := by simp [hk0]
   rw [hd] at hcf
   clear hd
   by_cases hlt : a1 < x.f0
   ·have hmix : Try.prog.follows .mixedOrders = true := by kernel_rfl
    have hst := HSTEP.out
    rw [if_pos ⟨by simp [hk0], hlt⟩] at hst
    have hnz : ¬ wrap64 (x.f0 - b.f0) = 0 := fun h => by rw [if_pos h] at hst; cases hst
    rw [if_neg hnz] at hst
    have HR := Aside0.mk (Option.some.inj hst)
    clear hst
    gi_wp2
    gi_region_with_o (fail)
    all_goals gi_wp2
    all_goals (refine ⟨((Keep2.refl _ _).trans (Keep2.setCell W.drew ⟨w.heap.size + 1 + 1, 0, none⟩ _ (by have := HSZ.out; simp <;> omega))), rfl, ?_, ?_⟩)
    all_goals first
     | (rw [HR.out]; exact blk_drew (blk_set HS.out.o 0 _))
     | exact (HS.out.below.setCell (p := ⟨w.heap.size + 1 + 1, 0, none⟩) (by simp <;> omega) _).drew
   ·gi_wp2
    have hst := HSTEP.out
    rw [if_neg (by simp [hk0]; omega)] at hst
    have hkp := deadlines_linear.keeps (w := w) (W := W) (B := W5.heap.size) (by have := HSZ.out; omega) (.int .i64 x.f0) (.int .i64 x.f1) (.bool false)
    refine ⟨hkp.1, hkp.2, ?_, ?_⟩
    ·rw [HBK.out]; exact HS.out.next x
    ·rw [HBK.out, H.out, hst]; rfl
 case done =>
  rintro D W hD ⟨hs, hgo⟩ hK
  have hr : r = wrap64 (100 * (deadlines_linear.bef kn kn.length).f1) := by
   rw [H.out, List.drop_length] at hgo
   have := Option.some.inj (hgo.trans (by rw [deadlines_linear.go]))
   exact this
  obtain ⟨b, hb⟩ : ∃ b, b = deadlines_linear.bef kn kn.length := ⟨_, rfl⟩
  rw [← hb] at hs hr
  have hcb1 := blk_cell hs.b 1
  have hco := blk_cell hs.o 0
  have hfo := blk_frozen hs.o 0
  simp only [List.getElem?_toArray, List.getElem?_cons_zero, List.getElem?_cons_succ] at hcb1 hco
  have HS := Aside0.mk hs
  have HR := Aside0.mk hr
  have HD := Aside0.mk hD
  clear hs hr hb hgo hD
  gi_wp2
  have hK' := (KeepsOthers.setCell W ⟨w.heap.size + 1 + 1, 0, none⟩ (.int .i64 (wrap64 (100 * b.f1)))).same D _ hK rfl
  refine ⟨by simp, .inl ⟨_, _, rfl, run_takeDeferred hK', ?_⟩⟩
  have hc5 : ((W.setCell ⟨w.heap.size + 1 + 1, 0, none⟩ (.int .i64 (wrap64 (100 * b.f1)))).putObj D (.deferred none)).heap[w.heap.size + 1 + 1]? = some (.cells #[.int .i64 (wrap64 (100 * b.f1))] 3 (0, 0)) :=
   (World.putObj_heap_other (by have := HD.out; have := HSZ.out; omega)).trans (blk_set HS.out.o 0 _)
  have hc6 := blk_cell hc5 0
  simp only [List.getElem?_toArray, List.getElem?_cons_zero] at hc6
  refine ⟨.int .i64 r, ?_, rfl, (HS.out.below.setCell (p := ⟨w.heap.size + 1 + 1, 0, none⟩) (by simp <;> omega) _).trans (belowK_b (w := w) (Nat.le_refl _) _ D _ _ (by have := HD.out; have := HSZ.out; omega) hK' rfl rfl)⟩
  rw [HR.out]
  simp [results, Try.f41, go_sem, hc6]
 case stop =>
  rintro D c k W hD hk ⟨rfl, ho, hb⟩ hK
  gi_wp2
  refine ⟨by simp, .inl ⟨_, _, rfl, run_takeDeferred hK, ?_⟩⟩
  have hc5 : (W.putObj D (.deferred none)).heap[w.heap.size + 1 + 1]? = some (.cells #[.int .i64 r] 3 (0, 0)) :=
   (World.putObj_heap_other (by have := HSZ.out; omega)).trans ho
  have hc6 := blk_cell hc5 0
  simp only [List.getElem?_toArray, List.getElem?_cons_zero] at hc6
  refine ⟨.int .i64 r, ?_, rfl, hb.trans (belowK_b (w := w) (Nat.le_refl _) _ D _ _ (by have := HSZ.out; omega) hK rfl rfl)⟩
  simp [results, Try.f41, go_sem, hc6]

theorem deadlines_linear.calls (a0_0 : Int) (a0_1 : Int) (a0_2 : Bool) (A0_3 : Option Addr) (c0_3 : Nat) (l0_3 : List (S34)) (a1 : Int) (r : Int) (w : World) (hr0_3 : Kd.C k34 w A0_3 l0_3.length l0_3) (_hc0_3 : l0_3.length ≤ c0_3) (h : deadlines_linear.f a0_0 a0_1 a0_2 l0_3 a1 = some r) :
  Calls Try.prog 41 #[.agg #[.int .i64 a0_0, .int .i64 a0_1, .bool a0_2, .slice A0_3 l0_3.length c0_3], .int .i64 a1] w fun e w' => e = .returned (.int .i64 r) ∧ Below w.heap.size w w' :=
 callsIn_wide.1 (deadlines_linear.in_ Fence.wide 3 trivial trivial trivial rfl (Nat.le_refl _) a0_0 a0_1 a0_2 A0_3 c0_3 l0_3 a1 r w hr0_3 h)

end

end Go.Proofs.Ytbehhijmcnoeeaa.XA
