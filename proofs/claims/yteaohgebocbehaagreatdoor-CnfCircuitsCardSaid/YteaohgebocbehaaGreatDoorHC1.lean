/- Texts of this claim, one behind the other; each begins with what it proves. Conditions as written in each theorem. -/
import Derived.Test.YteaohgebocbehaaGreatDoorHC0
import Derived.Test.YteaohgebocbehaaGreatDoorXAx2
import Derived.Outline
import Derived.DataShut
import Derived.RangeFuncNested
import Derived.RangeFuncBound
import Derived.RangeFuncCalls
import Derived.RangeFuncLeaves
import Derived.Shelf.Abstract
import Derived.Shelf.RegionOpen
import Derived.WalkKit
import Derived.OwnWalkIn
import Derived.TacticsInMore
import Derived.LoopNIn
import Derived.LoopIn
import Derived.Test.YteaohgebocbehaaGreatDoorXAx3
import Derived.Test.YteaohgebocbehaaGreatDoorXAx10
import Derived.Test.YteaohgebocbehaaGreatDoorRows
import Derived.Deep.DeepHandedRow
import Derived.Deep.DeepWitnessRowRef
import Derived.Deep.DeepLaidRun
import Derived.Lib.LaidIn
import Derived.Lib.LaidTab
import Derived.Lib.LaidU8
import Derived.Stop.LaidErr
import Derived.MakeChecks
import Derived.HandedShaped
import Derived.ProofKit
import Derived.SizedLaws
import Derived.Test.YteaohgebocbehaaGreatDoorWWords
import Derived.ChangeArms
import Derived.ChangeSame
import Derived.Deep.Slices
import Derived.ChangeOld
import Derived.Test.YteaohgebocbehaaGreatDoorXAx0
import Derived.OpenShut
section
/- gates.Valid at any circuit of at most 2^44 gates: the walk. -/
set_option linter.unusedVariables false
set_option linter.unusedSimpArgs false
namespace Go.Proofs.YteaohgebocbehaaGreatDoor.Hand
open Go.RowKit Go.Lib Go.Proofs.YteaohgebocbehaaGreatDoorW Go.Proofs.YteaohgebocbehaaGreatDoorW.PrintWords Go.Proofs.YteaohgebocbehaaGreatDoorW.PrintLast Go.Proofs.YteaohgebocbehaaGreatDoorW.PrintMore Go.Proofs.YteaohgebocbehaaGreatDoor.Plain Go.Proofs.YteaohgebocbehaaGreatDoor.XA Go.Proofs.YteaohgebocbehaaGreatDoor.MapB
attribute [local go_sem] max2_int min2_int max_two min_two max_three min_three max_four min_four
section
variable {P : Program} {ops : Array Oper} {rest : List Oper} {o : Oper} {a : Act} {Q : Exit → Act → World → Prop}
/-- A whole value is stored into its box. -/
theorem st_box {W : World} (hN : o.dst = none) (hgd : o.guard = none) (t : TypeId) (p x : Operand) (ho : o.op = .store t p x) {g : Nat} {T : TypeId} {cur : Array Value} {u : Value} (haddr : a.eval p = .pointer (some ⟨g, 0, none⟩)) (hx : a.eval x = u)
    (hg : W.heap[g]? = some (.cells cur T (0, 0))) (ht : (P.info? t).map (·.size) = some cur.size) (hu : u.cells.size = cur.size) (h1 : ∀ q ∈ u.cells.toList, q.oneCell' = true)
    (h : ∀ w1, w1.heap[g]? = some (.cells u.cells T (0, 0)) → W.grownBy w1 (some g) → wpList P ops Q rest a w1) : wpList P ops Q (o :: rest) a W := by
  have hrun := run_store_run (P := P) (w := W) (o := 0) t u u.cells.toList hg rfl (by rw [ht, Array.length_toList, hu]) (by rw [Array.length_toList, hu]; omega) h1
  obtain ⟨cur', h3, h4, h5⟩ := setCells_row u.cells.toList 0 W cur hg (by rw [Array.length_toList, hu]; omega)
  obtain ⟨s1, s2, s3, s4⟩ := setCells_same g u.cells.toList 0 W
  have e : cur' = u.cells := by
    apply Array.toList_inj.1
    rw [h5, List.take_zero, List.nil_append, List.drop_eq_nil_of_le (by simp [hu]), List.append_nil]
  subst e
  have := h (W.setCells g 0 u.cells.toList) h3 ⟨s1, s2, s3, by rw [s4]; exact Nat.le_refl _, fun k _ hk => setCells_far _ _ k (fun he => hk (by rw [he]))⟩
  refine wpList_plain hgd fun K hK => ?_
  unfold Oper.wp execOp
  simp only [ho, haddr, hx, Sem.run_bind, Sem.run_pure, Result.andThen_ok, hrun]
  show K (a.put o.dst undef) _
  rw [hN]
  exact hK _ _ this
theorem do_event {W w1 : World} (hgd : o.guard = none) (hN : o.dst = none) (hrun : (execOp a.eval o).run P W = .ok .skip w1) (h : wpList P ops Q rest a w1) : wpList P ops Q (o :: rest) a W := by
  refine wpList_plain hgd fun K hK => ?_
  unfold Oper.wp
  rw [hrun]
  show K (a.put o.dst undef) w1
  rw [hN]
  exact hK _ _ h
end
theorem map_event {P : Program} {ops : Array Oper} {rest : List Oper} {o : Oper} {a : Act} {Q : Exit → Act → World → Prop} {W : World} (hgd : o.guard = none) {N : Tmp} (_hd : o.dst = some N) (hrun : (execOp a.eval o).run P W = .ok (.value (.map (some W.heap.size))) (W.alloc (.map #[] 0)))
    (h : ∀ g, g = W.heap.size → ∀ w1, w1.heap[g]? = some (.map #[] 0) → Below W.heap.size W w1 → wpList P ops Q rest (a.put o.dst (.map (some g))) w1) : wpList P ops Q (o :: rest) a W :=
  Kd.event_run hgd hrun (h _ rfl _ (blk_new W _) (below_alloc (Below.refl _ _) _))
theorem not_calls (x : Int) (W : World) : Calls Tryz.prog 80 #[.int .i64 x] W fun e w' => e = .returned (.int .i64 (notI x)) ∧ w' = W := by
  unfold notI
  go_enter Tryz.func80, Tryz.ntmps80
  go_wp2
  go_ret
  exact ⟨rfl, rfl⟩
theorem nodes_calls (inp : Int) (A : Option Addr) (c : Nat) (gs : List S62) (w : World) (hr : k62.C w A gs.length gs) (hc : gs.length ≤ c) (hf : gs.length ≤ 17592186044416) (h0 : 0 ≤ inp) (h1 : inp ≤ 1024) :
    Calls Tryz.prog 79 #[.agg #[.int .i64 inp, .slice A gs.length c]] w fun e w' => e = .returned (.int .i64 (1 + inp + gs.length)) ∧ Below w.heap.size w w' := by
  refine gates_nodes.calls inp A c gs _ w hr hc ?_
  unfold gates_nodes.f wrap64
  congr 1
  omega
/-- What the walk holds of its blocks. -/
structure VSt (w W : World) (g1 gm : Nat) (inp : Int) (A : Option Addr) (n c : Nat) (seen : List (Int × Int)) : Prop where
  b1 : W.heap[g1]? = some (.cells #[.int .i64 inp, .slice A n c] 38 (0, 0))
  bm : W.heap[gm]? = some (.map (ents seen) seen.length)
  below : Below w.heap.size w W
  old : w.heap.size ≤ gm
theorem VSt.later {w W W' : World} {g1 gm : Nat} {inp : Int} {A : Option Addr} {n c : Nat} {seen : List (Int × Int)} (h : VSt w W g1 gm inp A n c seen) (hb : Below W.heap.size W W') : VSt w W' g1 gm inp A n c seen :=
  ⟨blk_below h.b1 hb, (hb.block gm (blk_lt h.bm)).trans h.bm, below_step h.below hb, h.old⟩
theorem size62 : (Tryz.prog.info? 62).map (·.size) = some 2 := by kernel_rfl
set_option maxHeartbeats 8000000 in
set_option maxRecDepth 100000 in
theorem GValid_calls (inp : Int) (A : Option Addr) (c : Nat) (gs : List S62) (w : World) (hr : k62.C w A gs.length gs) (hc : gs.length ≤ c) (hf : gs.length ≤ 17592186044416) :
    Calls Tryz.prog 51 #[.agg #[.int .i64 inp, .slice A gs.length c]] w fun e w' => e = .returned (.bool (gValid inp gs)) ∧ Below w.heap.size w w' := by
  have hu38 := Tryz.underlying38
  have hu62 := Tryz.underlying62
  have hu102 := Tryz.underlying102
  have HR := Aside0.mk hr
  have HC := Aside0.mk hc
  have HF := Aside0.mk hf
  clear hr hc hf
  have hspec : Aside0 (gValid inp gs = (decide (0 ≤ inp) && (decide (inp ≤ 1024) && (decide (1 + inp + gs.length ≤ 65536) && gOk (1 + inp) [] gs)))) := ⟨rfl⟩
  go_enter Tryz.func51, Tryz.ntmps51
  go_upto_region 1 with (first | ((with_reducible refine gate_dst (N := 1) rfl ?_); refine box_event ?hg (N := 1) ?hd (cs := #[.int .i64 inp, .slice A gs.length c]) (t := 38) ?hr ?_; (case hd => rfl); (case hg => rfl); (case hr => first | (go_simp; done) | (go_simp; rfl)); intro g1 hg_ w2 h1_ h2_; have BK1 := Aside0.mk h1_; have HB1 := Aside0.mk h2_; have GEg1 := Aside0.mk hg_; clear h1_ h2_ hg_))
  have c10 : w2.cell? ⟨g1, 0, none⟩ = some (.int .i64 inp) := (blk_cell BK1.out 0).trans rfl
  have c11 : w2.cell? ⟨g1, 1, none⟩ = some (.slice A gs.length c) := (blk_cell BK1.out 1).trans rfl
  by_cases h0 : inp < 0
  · have d0 : decide (inp < 0) = true := decide_eq_true h0
    have D := Aside0.mk h0
    clear h0
    go_wp2
    go_ret
    exact ⟨by rw [hspec.out, decide_eq_false (show ¬ 0 ≤ inp by have := D.out; omega)]; rfl, HB1.out⟩
  by_cases h1 : 1024 < inp
  · have d0 : decide (inp < 0) = false := decide_eq_false h0
    have d1 : decide (1024 < inp) = true := decide_eq_true h1
    have D := Aside0.mk h1
    clear h0 h1
    go_wp2
    go_ret
    exact ⟨by rw [hspec.out, decide_eq_false (show ¬ inp ≤ 1024 by have := D.out; omega)]; simp, HB1.out⟩
  have d0 : decide (inp < 0) = false := decide_eq_false h0
  have d1 : decide (1024 < inp) = false := decide_eq_false h1
  have HI := Aside0.mk (show 0 ≤ inp ∧ inp ≤ 1024 by omega)
  clear h0 h1
  have HN := Aside0.mk (nodes_calls inp A c gs w2 (Kd.C_below HR.out HB1.out) HC.out HF.out HI.out.1 HI.out.2)
  obtain ⟨nn, hnn⟩ : ∃ n : Int, n = 1 + inp + gs.length := ⟨_, rfl⟩
  rw [← hnn] at HN
  by_cases h2 : 65536 < nn
  · have d2 : decide (65536 < nn) = true := decide_eq_true h2
    have D := Aside0.mk (And.intro h2 hnn)
    clear h2 hnn
    go_wp2_with (go_at_call 79; refine HN.out.mono ?_; rintro e w3 ⟨rfl, hb⟩)
    have HB3 := Aside0.mk hb
    clear hb
    go_wp2
    go_ret
    exact ⟨by rw [hspec.out, decide_eq_false (show ¬ (1 + inp + gs.length ≤ 65536) by have := D.out; omega)]; simp, below_step HB1.out HB3.out⟩
  have d2 : decide (65536 < nn) = false := decide_eq_false h2
  have HL := Aside0.mk (show 1 + inp + gs.length ≤ 65536 by omega)
  clear h2 hnn
  go_upto_region 4 with (first
    | (go_at_call 79; refine HN.out.mono ?_; rintro e w3 ⟨rfl, hb⟩; have HB3 := Aside0.mk hb; clear hb; have BK3 := Aside0.mk (blk_below BK1.out HB3.out))
    | ((with_reducible refine gate_dst (N := 20) rfl ?_); refine map_event rfl (N := 20) rfl (by have h := make_run w3; go_simp) ?_; intro gm hgm w4 hm4 hb4;
       have VS := Aside0.mk (show VSt w w4 g1 gm inp A gs.length c (seenTo gs 0) from ⟨blk_below BK3.out hb4, hm4, below_step (below_step HB1.out HB3.out) hb4, by rw [hgm]; exact below_size (below_step HB1.out HB3.out)⟩); clear hm4 hb4 hgm BK3 HB3))
  have f10 : w4.cell? ⟨g1, 0, none⟩ = some (.int .i64 inp) := (blk_cell VS.out.b1 0).trans rfl
  have f11 : w4.cell? ⟨g1, 1, none⟩ = some (.slice A gs.length c) := (blk_cell VS.out.b1 1).trans rfl
  clear c10 c11 HN d0 d1 d2 BK1 HB1 GEg1
  go_wp2
  go_loopw [24] (fun v24 wr => ∃ x : Int, v24 = .int .i64 x ∧ Aside0 (0 ≤ x ∧ x ≤ gs.length ∧ gOk (1 + inp) [] gs = gOk (1 + inp + x) (seenTo gs x) (gs.drop x.toNat) ∧ ∀ q ∈ seenTo gs x, PairOk q) ∧ Aside0 (VSt w wr g1 gm inp A gs.length c (seenTo gs x))) (fun v24 _ => gs.length - (intOf v24).toNat)
  case atStart => exact ⟨0, rfl, ⟨by omega, by omega, by simp [seenTo], fun q hq => by simp [seenTo] at hq⟩, VS⟩
  case round =>
    clear VS f10 f11
    obtain ⟨x, rfl, HX, VS⟩ := hrel
    by_cases c1 : x < (gs.length : Int)
    · have hlm := HF.out
      have hll := HL.out
      have p0 := HX.out.1
      have hi := HI.out
      obtain ⟨ad, e1, hx0, hx1⟩ := at_T62 HR.out x p0 c1
      cases e1
      have hstep := gOk_step (inp := inp) p0 c1
      have hss := seen_step p0 c1
      obtain ⟨a0, ha0⟩ : ∃ a0, a0 = (rd_T62 gs x).f0 := ⟨_, rfl⟩
      obtain ⟨a1, ha1⟩ : ∃ a1, a1 = (rd_T62 gs x).f1 := ⟨_, rfl⟩
      have hpr : pr (rd_T62 gs x) = (a0, a1) := by rw [ha0, ha1]; rfl
      rw [hpr] at hss
      rw [← ha0, ← ha1] at hstep
      rw [← ha0] at hx0
      rw [← ha1] at hx1
      replace hx0 := (VS.out.below.cell (World.block_lt_of_cell? w _ hx0)).trans hx0
      replace hx1 := (VS.out.below.cell (World.block_lt_of_cell? w _ hx1)).trans hx1
      obtain ⟨b, hb⟩ : ∃ a : Int, a = x + 1 := ⟨_, rfl⟩
      obtain ⟨m1, hm1⟩ : ∃ a : Int, a = 1 + inp := ⟨_, rfl⟩
      obtain ⟨m, hm⟩ : ∃ a : Int, a = m1 + x := ⟨_, rfl⟩
      obtain ⟨m2, hm2⟩ : ∃ a : Int, a = 2 * m := ⟨_, rfl⟩
      obtain ⟨nt, hnt⟩ : ∃ a : Int, a = notI a0 := ⟨_, rfl⟩
      have kb : IntKind.i64.wrap (x + 1) = b := (IntWalk.i64_in _ (by omega)).trans hb.symm
      have km1 : IntKind.i64.wrap (1 + inp) = m1 := (IntWalk.i64_in _ (by omega)).trans hm1.symm
      have km : IntKind.i64.wrap (m1 + x) = m := (IntWalk.i64_in _ (by omega)).trans hm.symm
      have km2 : IntKind.i64.wrap (2 * m) = m2 := (IntWalk.i64_in _ (by omega)).trans hm2.symm
      have kb' : wrap64 (x + 1) = b := by unfold wrap64; omega
      have km1' : wrap64 (1 + inp) = m1 := by unfold wrap64; omega
      have km' : wrap64 (m1 + x) = m := by unfold wrap64; omega
      have km2' : wrap64 (2 * m) = m2 := by unfold wrap64; omega
      have hstep2 : gOk (1 + inp + x) (seenTo gs x) (gs.drop x.toNat) = (decide (2 ≤ a0) && (decide (a0 < a1) && (decide (a1 < m2) && (!decide (a1 = nt) && (!decide ((a0, a1) ∈ seenTo gs x) && gOk (1 + inp + b) (seenTo gs b) (gs.drop b.toNat)))))) := by
        rw [hstep, hm2, hm, hm1, hnt, hb]
      have hcn : ∀ W', Calls Tryz.prog 80 #[.int .i64 a0] W' fun e w' => e = .returned (.int .i64 nt) ∧ w' = W' := fun W' => by rw [hnt]; exact not_calls a0 W'
      have HCN := Aside0.mk hcn
      have HST := Aside0.mk hstep2
      have HSS := Aside0.mk (show seenTo gs b = seenTo gs x ++ [(a0, a1)] by rw [hb]; exact hss)
      have HM := Aside0.mk (show m2 ≤ 200000 ∧ b = x + 1 by omega)
      have h1 : decide (x < (gs.length : Int)) = true := decide_eq_true c1
      have p1 : (0 ≤ x) = True := eq_true p0
      have q1 : (x < (gs.length : Int)) = True := eq_true c1
      have C1 := Aside0.mk c1
      clear hcn hstep2 hstep hss hpr ha0 ha1 hb hm1 hm hm2 hnt c1 p0 hlm hll hi
      obtain ⟨se, hse⟩ : ∃ l, l = seenTo gs x := ⟨_, rfl⟩
      rw [← hse] at VS HX HST HSS
      have HSE := Aside0.mk hse
      clear hse
      go_upto_region 7 with (first
        | ((with_reducible refine gate_dst (N := 5) rfl ?_); refine box_event ?hg (N := 5) ?hd (cs := #[.int .i64 0, .int .i64 0]) (t := 62) ?hr ?_; (case hd => rfl); (case hg => rfl); (case hr => first | (go_simp; done) | (go_simp; rfl)); intro g5 hg_ w6 h1_ h2_; have BK5 := Aside0.mk h1_; have HB5 := Aside0.mk h2_; have GEg5 := Aside0.mk hg_; clear h1_ h2_ hg_)
        | ((with_reducible refine gate_ (.store 62 (.tmp 5) (.tmp 28)) rfl ?_); refine st_box rfl rfl 62 (.tmp 5) (.tmp 28) rfl (g := g5) (T := 62) (cur := #[.int .i64 0, .int .i64 0]) (u := .agg #[.int .i64 a0, .int .i64 a1]) rfl rfl BK5.out size62 rfl (by simp [Value.cells, Value.oneCell']) ?_; intro w7 hb7 hg7;
           have BK7 := Aside0.mk (show w7.heap[g5]? = some (.cells #[.int .i64 a0, .int .i64 a1] 62 (0, 0)) from hb7);
           have HG7 := Aside0.mk hg7; clear hb7 hg7))
      have VS7 : Aside0 (VSt w w7 g1 gm inp (some ad) gs.length c se) := ⟨by
        have hg7 := HG7.out
        have hge := GEg5.out
        exact VS.out.later (HB5.out.trans ⟨hg7.os, hg7.tape, hg7.output, hg7.size, fun k hk => hg7.block k (by have := HB5.out.size; omega) (by intro he; injection he with he; omega)⟩)⟩
      clear HG7 HB5 BK5 VS GEg5
      have k0 : w7.cell? ⟨g5, 0, none⟩ = some (.int .i64 a0) := (blk_cell BK7.out 0).trans rfl
      have k1 : w7.cell? ⟨g5, 1, none⟩ = some (.int .i64 a1) := (blk_cell BK7.out 1).trans rfl
      have k2 : w7.cell? ⟨g1, 0, none⟩ = some (.int .i64 inp) := (blk_cell VS7.out.b1 0).trans rfl
      by_cases e1 : a0 < 2
      · have t1 : decide (a0 < 2) = true := decide_eq_true e1
        have E := Aside0.mk e1
        clear e1
        go_wp2
        go_quiet ((go_at_call 80; exact Calls.quiet_of_same (HCN.out _)))
        go_wp2
        go_ret
        exact ⟨by rw [hspec.out, HX.out.2.2.1, HST.out, decide_eq_false (show ¬ 2 ≤ a0 by have := E.out; omega)]; simp, pw_below_drewN VS7.out.below _⟩
      have t1 : decide (a0 < 2) = false := decide_eq_false e1
      have E1 := Aside0.mk e1
      clear e1
      by_cases e2 : a1 ≤ a0
      · have t2 : decide (a1 ≤ a0) = true := decide_eq_true e2
        have E := Aside0.mk e2
        clear e2
        go_wp2
        go_quiet ((go_at_call 80; exact Calls.quiet_of_same (HCN.out _)))
        go_wp2
        go_ret
        exact ⟨by rw [hspec.out, HX.out.2.2.1, HST.out, decide_eq_false (show ¬ a0 < a1 by have := E.out; omega)]; simp, pw_below_drewN VS7.out.below _⟩
      have t2 : decide (a1 ≤ a0) = false := decide_eq_false e2
      have E2 := Aside0.mk e2
      clear e2
      by_cases e3 : m2 ≤ a1
      · have t3 : decide (m2 ≤ a1) = true := decide_eq_true e3
        have E := Aside0.mk e3
        clear e3
        go_wp2
        go_quiet ((go_at_call 80; exact Calls.quiet_of_same (HCN.out _)))
        go_wp2
        go_ret
        exact ⟨by rw [hspec.out, HX.out.2.2.1, HST.out, decide_eq_false (show ¬ a1 < m2 by have := E.out; omega)]; simp, pw_below_drewN VS7.out.below _⟩
      have t3 : decide (m2 ≤ a1) = false := decide_eq_false e3
      have E3 := Aside0.mk e3
      clear e3
      by_cases e4 : a1 = nt
      · have t4 : (a1 == nt) = true := beq_iff_eq.mpr e4
        have E := Aside0.mk e4
        clear e4
        go_wp2
        go_quiet ((go_at_call 80; exact Calls.quiet_of_same (HCN.out _)))
        go_wp2
        go_ret
        exact ⟨by rw [hspec.out, HX.out.2.2.1, HST.out, decide_eq_true E.out]; simp, pw_below_drewN VS7.out.below _⟩
      have t4 : (a1 == nt) = false := beq_eq_false_iff_ne.mpr e4
      have E4 := Aside0.mk e4
      clear e4
      have hp : PairOk (a0, a1) := by
        have h1 := E1.out; have h2 := E2.out; have h3 := E3.out; have h4 := HM.out.1
        constructor <;> (refine (Lit.wf_int_iff .i64 _).2 ⟨?_, ?_⟩ <;> (simp [IntKind.min, IntKind.max, IntKind.bits, IntKind.signed]; omega))
      have hlq : ∀ q, (Instr.lookup 102 (.map (some gm)) (.agg #[.int .i64 a0, .int .i64 a1]) false).run Tryz.prog (w7.drewN q) = .ok (.bool (decide ((a0, a1) ∈ se))) (w7.drewN q) := fun q => lookup_run gm se _ (VS7.out.later (pw_below_drewN (Below.refl _ _) q)).bm (a0, a1) hp HX.out.2.2.2
      by_cases e5 : (a0, a1) ∈ se
      · have t5 : ∀ q, (Instr.lookup 102 (.map (some gm)) (.agg #[.int .i64 a0, .int .i64 a1]) false).run Tryz.prog (w7.drewN q) = .ok (.bool true) (w7.drewN q) := by intro q; rw [hlq q, decide_eq_true e5]
        have E := Aside0.mk e5
        clear e5 hlq
        go_wp2
        go_quiet ((go_at_call 80; exact Calls.quiet_of_same (HCN.out _)))
        go_wp2
        go_ret
        exact ⟨by rw [hspec.out, HX.out.2.2.1, HST.out, decide_eq_true E.out]; simp, pw_below_drewN VS7.out.below _⟩
      have t5 : ∀ q, (Instr.lookup 102 (.map (some gm)) (.agg #[.int .i64 a0, .int .i64 a1]) false).run Tryz.prog (w7.drewN q) = .ok (.bool false) (w7.drewN q) := by intro q; rw [hlq q, decide_eq_false e5]
      have E5 := Aside0.mk e5
      clear e5
      have HUP := Aside0.mk (show ∀ q, ∃ w1, (Instr.mapUpdate 102 (.map (some gm)) (.agg #[.int .i64 a0, .int .i64 a1]) (.bool true)).run Tryz.prog (w7.drewN q) = .ok () w1 ∧ w1.heap[gm]? = some (.map (ents (se ++ [(a0, a1)])) (se ++ [(a0, a1)]).length) ∧ (w7.drewN q).grownBy w1 (some gm) from fun q => update_run gm se _ (VS7.out.later (pw_below_drewN (Below.refl _ _) q)).bm (a0, a1) hp HX.out.2.2.2 E5.out)
      have HP := Aside0.mk hp
      clear hlq hp
      go_wp2
      go_quiet ((go_at_call 80; exact Calls.quiet_of_same (HCN.out _)))
      obtain ⟨w8, hr8, hm8, hg8⟩ := HUP.out nq
      have HM8 := Aside0.mk hm8
      have HG8 := Aside0.mk hg8
      clear hm8 hg8
      go_wp2
      go_roundw
      case rel => exact ⟨b, rfl, ⟨by have := HX.out.1; have := HM.out; omega, by have := C1.out; have := HM.out; omega, by rw [HX.out.2.2.1, HST.out, decide_eq_true (show 2 ≤ a0 by have := E1.out; omega), decide_eq_true (show a0 < a1 by have := E2.out; omega), decide_eq_true (show a1 < m2 by have := E3.out; omega), decide_eq_false E4.out, decide_eq_false E5.out]; rfl, by
          rw [HSS.out]
          intro q hq
          rcases List.mem_append.1 hq with hq | hq
          · exact HX.out.2.2.2 q hq
          · rw [List.mem_singleton.1 hq]
            exact HP.out⟩, ⟨by
          rw [HSS.out]
          have hv := VS7.out.later (pw_below_drewN (Below.refl _ _) nq)
          have hg8 := HG8.out
          exact ⟨(hg8.block g1 (blk_lt hv.b1) (by
            intro he
            injection he with he
            rw [he] at hv
            have h1 := hv.b1
            rw [hv.bm] at h1
            cases h1)).trans hv.b1, HM8.out, hv.below.trans ⟨hg8.os, hg8.tape, hg8.output, hg8.size, fun k hk => hg8.block k (Nat.lt_of_lt_of_le hk hv.below.size) (fun he => by injection he with he; have := hv.old; omega)⟩, hv.old⟩⟩⟩
      case measure =>
        have := C1.out; have := HX.out.1; have := HM.out
        simp [intOf]; omega
    · have h1 : decide (x < (gs.length : Int)) = false := decide_eq_false c1
      have HE : Aside0 (gOk (1 + inp + x) (seenTo gs x) (gs.drop x.toNat) = true) := ⟨gOk_end c1⟩
      clear c1
      go_wp2
      go_ret
      exact ⟨by rw [hspec.out, HX.out.2.2.1, HE.out, decide_eq_true HI.out.1, decide_eq_true HI.out.2, decide_eq_true HL.out]; rfl, VS.out.below⟩
end Go.Proofs.YteaohgebocbehaaGreatDoor.Hand
end
section
/- cnf.Translate's add: a clause's normal form is put behind the formula's clauses. -/
set_option linter.unusedVariables false
set_option linter.unusedSimpArgs false
namespace Go.Proofs.YteaohgebocbehaaGreatDoor.Hand
open Go.RowKit Go.Lib Go.Shelf Go.Proofs.YteaohgebocbehaaGreatDoorW Go.Proofs.YteaohgebocbehaaGreatDoorW.PrintWords Go.Proofs.YteaohgebocbehaaGreatDoorW.PrintLast Go.Proofs.YteaohgebocbehaaGreatDoorW.PrintMore Go.Proofs.YteaohgebocbehaaGreatDoor.Plain Go.Proofs.YteaohgebocbehaaGreatDoor.XA
attribute [local go_sem] max2_int min2_int max_two min_two max_three min_three max_four min_four
abbrev kLs : Kd (List Int) := Kd.slice 3 kI
/-- The formula's box, its clauses (rows from base on, none of them the box), the world since w. -/
structure TSt (w W : World) (gf : Nat) (n : Int) (v : Value) (cls : List (List Int)) : Prop where
  b : W.heap[gf]? = some (.cells #[.int .i64 n, v] 24 (0, 0))
  row : Kd.N kLs 25 W w.heap.size (fun k => w.heap.size ≤ k ∧ k ≠ gf) v cls
  below : Below w.heap.size w W
  old : w.heap.size ≤ gf
theorem TSt.later {w W W' : World} {gf : Nat} {n : Int} {v : Value} {cls : List (List Int)} (h : TSt w W gf n v cls) (hb : Below W.heap.size W W') : TSt w W' gf n v cls :=
  ⟨blk_below h.b hb, Kd.N_below h.row hb, below_step h.below hb, h.old⟩
/-- Nothing but the box and the row changed. -/
def Only (W W' : World) (gf : Nat) (v : Value) : Prop := W.heap.size ≤ W'.heap.size ∧ ∀ k, k < W.heap.size → k ≠ gf → some k ≠ v.ownBlock → W'.heap[k]? = W.heap[k]?
theorem info25' : (Tryz.prog.info? 25).map (fun i => (i.zero, i.size, i.bytes)) = some (some (.slice none 0 0), 1, 24) := by kernel_rfl
theorem N_cells {W : World} {base : Nat} {ok : Nat → Prop} {v : Value} {cls : List (List Int)} (h : Kd.N kLs 25 W base ok v cls) (k : Nat) (hk : v.ownBlock = some k) : ∃ cells, W.heap[k]? = some (.cells cells 25 (0, 0)) := by
  obtain ⟨_, rows, _, hR, _⟩ := h
  obtain ⟨_, inner, ho, _⟩ := hR
  exact own_typed ho k hk
set_option maxHeartbeats 4000000 in
set_option maxRecDepth 100000 in
theorem tadd_calls (w W : World) (gf : Nat) (n : Int) (v : Value) (cls : List (List Int)) (A : Option Addr) (c : Nat) (l : List Int) (h : TSt w W gf n v cls) (hr : kI.C W A l.length l) (hc : l.length ≤ c) (hl : l.length ≤ 17592186044416) (hcl : cls.length ≤ 1099511627776) :
    Calls Tryz.prog 52 #[.slice A l.length c, .pointer (some ⟨gf, 0, none⟩)] W fun e w' => e = .returned (.tuple #[]) ∧ ∃ v', TSt w w' gf n v' (cls ++ [(nrm l).1]) ∧ Only W w' gf v := by
  have hu24 := Tryz.underlying24
  obtain ⟨Av, cv, ev⟩ := Kd.N_slice h.row
  subst ev
  have HS := Aside0.mk h
  have HCL := Aside0.mk (show (cls.length + 1) * 24 ≤ 140737488355328 by omega)
  have HN := Aside0.mk (Normal_calls A c l W hr hc hl)
  obtain ⟨nb, hnb⟩ : ∃ b, b = (nrm l).2 := ⟨_, rfl⟩
  obtain ⟨nl, hnl⟩ : ∃ b, b = (nrm l).1 := ⟨_, rfl⟩
  rw [← hnb, ← hnl] at HN
  rw [← hnl]
  clear h hr hc hl hcl hnb hnl
  go_enter Tryz.func52, Tryz.ntmps52
  go_wp2_with (first
    | (go_at_call 12; refine HN.out.mono ?_; rintro e w1 ⟨vc, rfl, ho, hb⟩; have HO := Aside0.mk ho; have HB := Aside0.mk hb;
       obtain ⟨Ac, cc, ec⟩ := Kd.R_slice ho; subst ec;
       have HF := Aside0.mk (show Kd.FK kLs w1 (fun k => W.heap.size ≤ k) nl [.slice Ac nl.length cc] from Kd.FK_slice_mk (Kd.R_reads' ho).2.1 (Kd.R_F (Kd.R_mono (Kd.R_bound ho) (fun k hk => hk.2.1))));
       have HS1 := Aside0.mk (HS.out.later hb); have f1 : w1.cell? ⟨gf, 1, none⟩ = some (.slice Av cls.length cv) := (blk_cell HS1.out.b 1).trans rfl; clear ho hb)
    | (at_builtin; refine Kd.N_append kLs (w0 := w) (W := w1) w.heap.size rfl (.tmp 11) (.tmp 13) 22 25 (.slice none 0 0) 24 rfl Tryz.underlying22 info25' rfl (by decide) (by omega) (.slice Av cls.length cv) cls nl [.slice Ac nl.length cc] (fun k => w.heap.size ≤ k ∧ k ≠ gf) (fun k => W.heap.size ≤ k) rfl rfl HF.out
         (fun k hk => ⟨⟨Nat.le_trans HS.out.below.size hk, by have := blk_lt HS.out.b; omega⟩, fun e => by have := Kd.N_lt HS.out.row k e.symm; omega⟩)
         (fun k hk => ⟨Nat.le_trans HS1.out.below.size hk, by have := blk_lt HS1.out.b; omega⟩) HS1.out.row HS1.out.below HS1.out.below.size HCL.out ?_;
       intro v2 w2 ho hb hg hat; obtain ⟨A2, c2, e2⟩ := Kd.N_slice ho; subst e2; simp only [List.length_append, List.length_singleton] at ho hat; have HR2 := Aside0.mk ho; have HB2 := Aside0.mk hb; have HG2 := Aside0.mk hg; have HAT := Aside0.mk hat;
       have HK2 := Aside0.mk (show w2.heap[gf]? = some (.cells #[.int .i64 n, .slice Av cls.length cv] 24 (0, 0)) from (hg.block gf (blk_lt HS1.out.b) (fun e => by
         obtain ⟨cells, hc⟩ := N_cells HS1.out.row gf e.symm
         rw [HS1.out.b] at hc
         injection hc with hc
         injection hc with _ hc
         exact absurd hc (by decide))).trans HS1.out.b);
       have f2 : w2.frozen? ⟨gf, 1, none⟩ = false := blk_frozen HK2.out 1; have f3 : w2.cell? ⟨gf, 1, none⟩ = some (.slice Av cls.length cv) := (blk_cell HK2.out 1).trans rfl; clear ho hb hg hat))
  go_end0
  have hb2 := HK2.out
  have hlt : gf < w2.heap.size := blk_lt hb2
  refine ⟨rfl, _, ⟨(blk_set hb2 1 _).trans rfl, Kd.N_far HR2.out (p := ⟨gf, 1, none⟩) (fun k hk => hk.2) _, HB2.out.setCell (p := ⟨gf, 1, none⟩) HS1.out.old _, HS1.out.old⟩, ?_, ?_⟩
  · have h1 := HB.out.size
    have h2 := HG2.out.size
    have h3 : (w2.setCell ⟨gf, 1, none⟩ (.slice A2 (cls.length + 1) c2)).heap.size = w2.heap.size := by simp [World.setCell]
    omega
  · intro k hk hne hrow
    rw [Below.heap_setCell w2 ⟨gf, 1, none⟩ _ k hne, HG2.out.block k (Nat.lt_of_lt_of_le hk HB.out.size) hrow, HB.out.block k hk]
end Go.Proofs.YteaohgebocbehaaGreatDoor.Hand
end
section
/- cnf.Translate at any circuit: the walk. -/
set_option linter.unusedVariables false
set_option linter.unusedSimpArgs false
namespace Go.Proofs.YteaohgebocbehaaGreatDoor.Hand
open Go.RowKit Go.Lib Go.Shelf Go.Proofs.YteaohgebocbehaaGreatDoorW Go.Proofs.YteaohgebocbehaaGreatDoorW.PrintWords Go.Proofs.YteaohgebocbehaaGreatDoorW.PrintLast Go.Proofs.YteaohgebocbehaaGreatDoorW.PrintMore Go.Proofs.YteaohgebocbehaaGreatDoor.Plain Go.Proofs.YteaohgebocbehaaGreatDoor.XA
attribute [local go_sem] max2_int min2_int max_two min_two max_three min_three max_four min_four
theorem lit_calls (x : Int) (W : World) : Calls Tryz.prog 19 #[.int .i64 x] W fun e w' => e = .returned (.int .i64 (litC x)) ∧ w' = W := by
  obtain ⟨y, hy⟩ : ∃ y, y = litC x := ⟨_, rfl⟩
  rw [← hy]
  unfold litC cnf_Literal.f at hy
  by_cases h0 : x < 0
  · rw [if_pos h0] at hy
    have d0 : decide (x < 0) = true := decide_eq_true h0
    have HY := Aside0.mk hy
    clear hy h0
    go_enter Tryz.func19, Tryz.ntmps19
    go_wp2
    go_ret
    exact ⟨by rw [HY.out]; rfl, rfl⟩
  rw [if_neg h0] at hy
  have d0 : decide (x < 0) = false := decide_eq_false h0
  clear h0
  by_cases h : Int.tmod x 2 = 0
  · rw [if_pos h] at hy
    have d1 : (Int.tmod x 2 == 0) = true := beq_iff_eq.mpr h
    have HY := Aside0.mk hy
    clear hy h
    go_enter Tryz.func19, Tryz.ntmps19
    go_wp2
    go_ret
    exact ⟨by rw [HY.out]; rfl, rfl⟩
  · rw [if_neg h] at hy
    have d1 : (Int.tmod x 2 == 0) = false := beq_eq_false_iff_ne.mpr h
    have HY := Aside0.mk hy
    clear hy h
    go_enter Tryz.func19, Tryz.ntmps19
    go_wp2
    go_ret
    exact ⟨by rw [HY.out]; rfl, rfl⟩
/-- What a call of Translate tells. -/
def TransPost (w : World) (r : Int × List (List Int) × Int) (e : Ending) (w' : World) : Prop :=
  ∃ v, e = .returned (.tuple #[.agg #[.int .i64 r.1, v], .int .i64 r.2.2]) ∧ Kd.N kLs 25 w' w.heap.size (fun k => w.heap.size ≤ k) v r.2.1 ∧ Below w.heap.size w w'
theorem below_grown {w W W' : World} {B g : Nat} (h : Below B w W) (hs : B ≤ W.heap.size) (hg : W.grownBy W' (some g)) (hgB : B ≤ g) : Below B w W' :=
  h.trans ⟨hg.os, hg.tape, hg.output, hg.size, fun k hk => hg.block k (Nat.lt_of_lt_of_le hk hs) (fun he => by injection he with he; omega)⟩
theorem below_base {w W W' : World} (h : Below w.heap.size w W) (h2 : Below W.heap.size W W') : Below w.heap.size w W' := below_step h h2
theorem trans_bad {w w7 : World} {k : Int} {res : Int × List (List Int) × Int} (h : res = (0, [], k)) (hb : Below w.heap.size w w7) : TransPost w res (.returned (.tuple #[.agg #[.int .i64 0, .slice none 0 0], .int .i64 k])) w7 := by
  subst h
  exact ⟨_, rfl, Kd.N_nil _ _ _ _ _, hb⟩
theorem size24 : (Tryz.prog.info? 24).map (·.size) = some 2 := by kernel_rfl
set_option maxHeartbeats 16000000 in
set_option maxRecDepth 100000 in
theorem Trans_calls (inp : Int) (A : Option Addr) (c : Nat) (gs : List S62) (Al : Option Addr) (cl : Nat) (l : List Int) (w : World) (hr : k62.C w A gs.length gs) (hc : gs.length ≤ c) (hf : gs.length ≤ 17592186044416) (hrl : kI.C w Al l.length l) (hll : l.length ≤ 17592186044416) :
    Calls Tryz.prog 21 #[.agg #[.int .i64 inp, .slice A gs.length c], .slice Al l.length cl] w (TransPost w (transC inp gs l)) := by
  have hu38 := Tryz.underlying38
  have hu62 := Tryz.underlying62
  have hu24 := Tryz.underlying24
  have HR := Aside0.mk hr
  have HC := Aside0.mk hc
  have HF := Aside0.mk hf
  have HRL := Aside0.mk hrl
  have HLL := Aside0.mk hll
  clear hr hc hf hrl hll
  obtain ⟨res, hres⟩ : ∃ r, r = transC inp gs l := ⟨_, rfl⟩
  rw [← hres]
  have HRES := Aside0.mk hres
  clear hres
  go_enter Tryz.func21, Tryz.ntmps21
  go_upto_region 1 with (first
    | ((with_reducible refine gate_dst (N := 2) rfl ?_); refine box_event ?hg (N := 2) ?hd (cs := #[.int .i64 inp, .slice A gs.length c]) (t := 38) ?hr ?_; (case hd => rfl); (case hg => rfl); (case hr => first | (go_simp; done) | (go_simp; rfl)); intro g2 hg_ w2 h1_ h2_; have BK2 := Aside0.mk h1_; have HB2 := Aside0.mk h2_; have GEg2 := Aside0.mk hg_; clear h1_ h2_ hg_)
    | ((with_reducible refine gate_dst (N := 4) rfl ?_); refine box_event ?hg (N := 4) ?hd (cs := #[.int .i64 0, .slice none 0 0]) (t := 24) ?hr ?_; (case hd => rfl); (case hg => rfl); (case hr => first | (go_simp; done) | (go_simp; rfl)); intro g4 hg_ w4 h1_ h2_; have BK4 := Aside0.mk h1_; have HB4 := Aside0.mk h2_; have GEg4 := Aside0.mk hg_; clear h1_ h2_ hg_))
  have c20 : w4.cell? ⟨g2, 0, none⟩ = some (.int .i64 inp) := (blk_cell (blk_below BK2.out HB4.out) 0).trans rfl
  have c21 : w4.cell? ⟨g2, 1, none⟩ = some (.slice A gs.length c) := (blk_cell (blk_below BK2.out HB4.out) 1).trans rfl
  have HW4 := Aside0.mk (below_step HB2.out HB4.out)
  have HG2 := Aside0.mk (show w.heap.size ≤ g2 ∧ g2 < w4.heap.size ∧ w.heap.size ≤ g4 ∧ g4 < w4.heap.size ∧ g2 ≠ g4 by
    have h1 := GEg2.out; have h2 := GEg4.out; have h3 := blk_lt BK4.out; have h4 := blk_lt BK2.out; have h5 := HB2.out.size
    omega)
  obtain ⟨vb, hvb⟩ : ∃ b, b = gValid inp gs := ⟨_, rfl⟩
  have hv := GValid_calls inp A c gs w4 (Kd.C_below HR.out HW4.out) HC.out HF.out
  rw [← hvb] at hv
  have HV := Aside0.mk hv
  have HVB := Aside0.mk hvb
  clear hv hvb
  cases vb with
  | false =>
    have HE := Aside0.mk (show res = (0, [], 1) by rw [HRES.out]; unfold transC; rw [if_pos HVB.out.symm])
    go_wp2_with (first
      | (go_at_call 51; refine HV.out.mono ?_; rintro e w5 ⟨rfl, hb⟩; have HB5 := Aside0.mk hb; clear hb)
      | ((with_reducible refine gate_ (.store 24 (.tmp 4) (.tmp 21)) rfl ?_); refine st_box rfl rfl 24 (.tmp 4) (.tmp 21) rfl (g := g4) (T := 24) (cur := #[.int .i64 0, .slice none 0 0]) (u := .agg #[.int .i64 0, .slice none 0 0]) rfl rfl (blk_below BK4.out HB5.out) size24 rfl (by simp [Value.cells, Value.oneCell']) ?_; intro w7 h1_ h2_; have BK7 := Aside0.mk h1_; have HG7 := Aside0.mk h2_; clear h1_ h2_))
    refine bodyPost_ret (results_ct rfl _ _ g4 24 #[.int .i64 0, .slice none 0 0] (0, 0) _ rfl BK7.out hu24 rfl (by kernel_rfl)) rfl ?_
    exact trans_bad HE.out (below_grown (below_step HW4.out HB5.out) (below_step HW4.out HB5.out).size HG7.out HG2.out.2.2.1)
  | true =>
    have HI := Aside0.mk (gValid_iff inp gs HVB.out.symm)
    obtain ⟨m1, hm1⟩ : ∃ a : Int, a = 1 + inp := ⟨_, rfl⟩
    obtain ⟨nn, hnn⟩ : ∃ a : Int, a = m1 + gs.length := ⟨_, rfl⟩
    obtain ⟨n2, hn2⟩ : ∃ a : Int, a = 2 * nn := ⟨_, rfl⟩
    have hi := HI.out
    have k1 : IntKind.i64.wrap (1 + inp) = m1 := (IntWalk.i64_in _ (by omega)).trans hm1.symm
    have k2 : IntKind.i64.wrap (m1 + gs.length) = nn := (IntWalk.i64_in _ (by omega)).trans hnn.symm
    have k3 : IntKind.i64.wrap (2 * nn) = n2 := (IntWalk.i64_in _ (by omega)).trans hn2.symm
    have k1' : wrap64 (1 + inp) = m1 := by unfold wrap64; omega
    have k2' : wrap64 (m1 + gs.length) = nn := by unfold wrap64; omega
    have k3' : wrap64 (2 * nn) = n2 := by unfold wrap64; omega
    have HNN := Aside0.mk (show nn = 1 + inp + gs.length ∧ n2 = 2 * nn by omega)
    clear hi hm1 hnn hn2
    go_wp2_with (first
      | (go_at_call 51; refine HV.out.mono ?_; rintro e w5 ⟨rfl, hb⟩; have HB5 := Aside0.mk hb; clear hb; have d20 : w5.cell? ⟨g2, 0, none⟩ = some (.int .i64 inp) := (blk_cell (blk_below (blk_below BK2.out HB4.out) HB5.out) 0).trans rfl; have d21 : w5.cell? ⟨g2, 1, none⟩ = some (.slice A gs.length c) := (blk_cell (blk_below (blk_below BK2.out HB4.out) HB5.out) 1).trans rfl))
    have BL2 := Aside0.mk (blk_below (blk_below BK2.out HB4.out) HB5.out)
    have BL4 := Aside0.mk (blk_below BK4.out HB5.out)
    have HW5 := Aside0.mk (below_step HW4.out HB5.out)
    have HG5 := Aside0.mk (show w.heap.size ≤ g2 ∧ g2 < w5.heap.size ∧ w.heap.size ≤ g4 ∧ g4 < w5.heap.size ∧ g2 ≠ g4 by have := HG2.out; have := HB5.out.size; omega)
    clear c20 c21 HV BK2 BK4 HB2 HB4 GEg2 GEg4 HB5 HW4 HG2
    go_loop [31] (fun v31 => ∃ x : Int, v31 = .int .i64 x ∧ Aside0 (0 ≤ x ∧ x ≤ l.length ∧ litsOk nn l = litsOk nn (l.drop x.toNat))) (fun v31 => l.length - (intOf v31).toNat)
    case atStart => exact ⟨0, rfl, ⟨by omega, by omega, rfl⟩⟩
    case round =>
      obtain ⟨x, rfl, HX⟩ := hrel
      by_cases c1 : x < (l.length : Int)
      · have hlm := HLL.out
        have p0 := HX.out.1
        obtain ⟨ad, e1, hx0⟩ := Kd.at_int HRL.out x p0 c1
        cases e1
        have hx1 := (HW5.out.cell (World.block_lt_of_cell? w _ hx0)).trans hx0
        have hst : litsOk nn (l.drop x.toNat) = (decide (0 ≤ PrintWords.rd l x ∧ PrintWords.rd l x < 2 * nn) && litsOk nn (l.drop (x + 1).toNat)) := by
          rw [drop_rd p0 c1]
          rfl
        obtain ⟨y, hy⟩ : ∃ y, y = PrintWords.rd l x := ⟨_, rfl⟩
        rw [← hy] at hst hx1
        obtain ⟨a, ha⟩ : ∃ a : Int, a = x + 1 := ⟨_, rfl⟩
        have ka : IntKind.i64.wrap (x + 1) = a := (IntWalk.i64_in _ (by omega)).trans ha.symm
        have ka2 : wrap64 (x + 1) = a := by unfold wrap64; omega
        have h1 : decide (x < (l.length : Int)) = true := decide_eq_true c1
        have p1 : (0 ≤ x) = True := eq_true p0
        have q1 : (x < (l.length : Int)) = True := eq_true c1
        rw [← ha] at hst
        have HST := Aside0.mk hst
        have HA := Aside0.mk ha
        have C1 := Aside0.mk c1
        clear ha c1 hx0 p0 hlm hst hy
        by_cases t1 : 0 ≤ y ∧ y < 2 * nn
        · have u1 : decide (y < 0) = false := decide_eq_false (by omega)
          have u2 : decide (n2 ≤ y) = false := decide_eq_false (by have := HNN.out; omega)
          have T1 := Aside0.mk t1
          clear t1
          go_wp2
          go_round
          case rel => exact ⟨a, rfl, ⟨by have := HA.out; have := HX.out.1; omega, by have := HA.out; have := C1.out; omega, by rw [HX.out.2.2, HST.out, decide_eq_true T1.out, Bool.true_and]⟩⟩
          case measure =>
            have := C1.out; have := HX.out.1; have := HA.out
            simp [intOf]; omega
        · have HE := Aside0.mk (show res = (0, [], 1) by
            rw [HRES.out]
            unfold transC
            rw [if_neg (by rw [← HVB.out]; simp), if_pos (by rw [← HNN.out.1, HX.out.2.2, HST.out, decide_eq_false t1]; rfl)])
          by_cases t2 : y < 0
          · have u1 : decide (y < 0) = true := decide_eq_true t2
            clear t1 t2
            go_wp2_with ((with_reducible refine gate_ (.store 24 (.tmp 4) (.tmp 43)) rfl ?_); refine st_box rfl rfl 24 (.tmp 4) (.tmp 43) rfl (g := g4) (T := 24) (cur := #[.int .i64 0, .slice none 0 0]) (u := .agg #[.int .i64 0, .slice none 0 0]) rfl rfl (BL4.out) size24 rfl (by simp [Value.cells, Value.oneCell']) ?_; intro w7 h1_ h2_; have BK7 := Aside0.mk h1_; have HG7 := Aside0.mk h2_; clear h1_ h2_)
            refine bodyPost_ret (results_ct rfl _ _ g4 24 #[.int .i64 0, .slice none 0 0] (0, 0) _ rfl BK7.out hu24 rfl (by kernel_rfl)) rfl ?_
            exact trans_bad HE.out (below_grown HW5.out HW5.out.size HG7.out HG5.out.2.2.1)
          · have u1 : decide (y < 0) = false := decide_eq_false t2
            have u2 : decide (n2 ≤ y) = true := decide_eq_true (by have := HNN.out; omega)
            clear t1 t2
            go_wp2_with ((with_reducible refine gate_ (.store 24 (.tmp 4) (.tmp 43)) rfl ?_); refine st_box rfl rfl 24 (.tmp 4) (.tmp 43) rfl (g := g4) (T := 24) (cur := #[.int .i64 0, .slice none 0 0]) (u := .agg #[.int .i64 0, .slice none 0 0]) rfl rfl (BL4.out) size24 rfl (by simp [Value.cells, Value.oneCell']) ?_; intro w7 h1_ h2_; have BK7 := Aside0.mk h1_; have HG7 := Aside0.mk h2_; clear h1_ h2_)
            refine bodyPost_ret (results_ct rfl _ _ g4 24 #[.int .i64 0, .slice none 0 0] (0, 0) _ rfl BK7.out hu24 rfl (by kernel_rfl)) rfl ?_
            exact trans_bad HE.out (below_grown HW5.out HW5.out.size HG7.out HG5.out.2.2.1)
      · have h1 : decide (x < (l.length : Int)) = false := decide_eq_false c1
        have HLO : Aside0 (litsOk nn l = true) := ⟨by rw [HX.out.2.2, List.drop_eq_nil_of_le (by omega)]; rfl⟩
        clear c1
        obtain ⟨s1, hs1⟩ : ∃ a : Int, a = 3 * gs.length := ⟨_, rfl⟩
        obtain ⟨s2, hs2⟩ : ∃ a : Int, a = 1 + s1 := ⟨_, rfl⟩
        obtain ⟨s3, hs3⟩ : ∃ a : Int, a = s2 + l.length := ⟨_, rfl⟩
        have hi := HI.out
        have hll := HLL.out
        have kk1 : IntKind.i64.wrap (3 * gs.length) = s1 := (IntWalk.i64_in _ (by omega)).trans hs1.symm
        have kk2 : IntKind.i64.wrap (1 + s1) = s2 := (IntWalk.i64_in _ (by omega)).trans hs2.symm
        have kk3 : IntKind.i64.wrap (s2 + l.length) = s3 := (IntWalk.i64_in _ (by omega)).trans hs3.symm
        have kk1' : wrap64 (3 * gs.length) = s1 := by unfold wrap64; omega
        have kk2' : wrap64 (1 + s1) = s2 := by unfold wrap64; omega
        have kk3' : wrap64 (s2 + l.length) = s3 := by unfold wrap64; omega
        have HS3 := Aside0.mk (show s3 = 1 + 3 * (gs.length : Int) + l.length by omega)
        clear hs1 hs2 hs3 hi hll
        by_cases c2 : 262144 < s3
        · have h2 : decide (262144 < s3) = true := decide_eq_true c2
          have HE := Aside0.mk (show res = (0, [], 8) by
            rw [HRES.out]
            unfold transC
            rw [if_neg (by rw [← HVB.out]; simp), if_neg (by rw [← HNN.out.1, HLO.out]; simp), if_pos (by have := HS3.out; omega)])
          clear c2
          go_wp2_with ((with_reducible refine gate_ (.store 24 (.tmp 4) (.tmp 54)) rfl ?_); refine st_box rfl rfl 24 (.tmp 4) (.tmp 54) rfl (g := g4) (T := 24) (cur := #[.int .i64 0, .slice none 0 0]) (u := .agg #[.int .i64 0, .slice none 0 0]) rfl rfl (BL4.out) size24 rfl (by simp [Value.cells, Value.oneCell']) ?_; intro w7 h1_ h2_; have BK7 := Aside0.mk h1_; have HG7 := Aside0.mk h2_; clear h1_ h2_)
          refine bodyPost_ret (results_ct rfl _ _ g4 24 #[.int .i64 0, .slice none 0 0] (0, 0) _ rfl BK7.out hu24 rfl (by kernel_rfl)) rfl ?_
          exact trans_bad HE.out (below_grown HW5.out HW5.out.size HG7.out HG5.out.2.2.1)
        · have h2 : decide (262144 < s3) = false := decide_eq_false c2
          have HE := Aside0.mk (show res = (nn, trF inp gs l, 0) by
            rw [HRES.out]
            unfold transC
            rw [if_neg (by rw [← HVB.out]; simp), if_neg (by rw [← HNN.out.1, HLO.out]; simp), if_neg (by have := HS3.out; omega), HNN.out.1])
          have C2 := Aside0.mk c2
          clear c2
          go_upto_region 13 with (first
            | (((with_reducible refine gate_dst (N := 56) rfl ?_); refine Kd.R_lit kI _ 3 ?hg (N := 56) ?hd (xs := ([-1] : List Int)) (inner := [.int .i64 (-1)]) (ok := fun _ => True) (okp := fun _ => True) ?hr ?hp (fun _ hk => hk) trivial (Below.refl _ _) (Nat.le_refl _) (by simp) ?_; (case hd => rfl); (case hg => rfl); (case hr => first | (go_simp; done) | (go_simp; rfl)); (case hp => exact (Reps.one (show Kd.M kI _ _ _ (-1) [.int .i64 (-1)] from rfl) (Reps.none _ _))); intro v56 w6 h1_ h2_ h3_ h4_; have HO6 := Aside0.mk h1_; have HB6 := Aside0.mk h2_; clear h1_ h2_ h3_ h4_); obtain ⟨A6, c6, e6⟩ := Kd.R_slice HO6.out; subst e6)
            | ((with_reducible refine gate_dst (N := 57) rfl ?_); refine Kd.N_lit kLs (w0 := w5) w5.heap.size 25 ?hg (N' := 57) ?hd (xs := [[-1]]) (inner := [.slice A6 1 c6]) (ok := fun k => w5.heap.size ≤ k) (okp := fun k => w5.heap.size ≤ k) ?hr ?hp (fun _ hk => hk) HB6.out.size HB6.out HB6.out.size (by simp) ?_; (case hd => rfl); (case hg => rfl); (case hr => first | (go_simp; done) | (go_simp; rfl)); (case hp => exact Reps.one (Kd.FK_slice_mk (Kd.R_reads' HO6.out).2.1 (Kd.R_F (Kd.R_mono (Kd.R_bound HO6.out) (fun k hk => hk.2.1)))) (Reps.none _ _)); intro v57 w7 h1_ h2_ h3_ h4_; obtain ⟨A7, c7, e7⟩ := Kd.N_slice h1_; subst e7; have HN7 := Aside0.mk h1_; have HB7 := Aside0.mk h2_; clear h1_ h2_ h3_ h4_)
            | ((with_reducible refine gate_dst (N := 9) rfl ?_); refine box_event ?hg (N := 9) ?hd (cs := #[.int .i64 0, .slice none 0 0]) (t := 24) ?hr ?_; (case hd => rfl); (case hg => rfl); (case hr => first | (go_simp; done) | (go_simp; rfl)); intro g9 hg_ w8 h1_ h2_; have BK9 := Aside0.mk h1_; have HB8 := Aside0.mk h2_; have GEg9 := Aside0.mk hg_; clear h1_ h2_ hg_)
            | ((with_reducible refine gate_ (.store 24 (.tmp 9) (.tmp 58)) rfl ?_); refine st_box rfl rfl 24 (.tmp 9) (.tmp 58) rfl (g := g9) (T := 24) (cur := #[.int .i64 0, .slice none 0 0]) (u := .agg #[.int .i64 nn, .slice A7 1 c7]) rfl rfl (BK9.out) size24 rfl (by simp [Value.cells, Value.oneCell']) ?_; intro w9 h1_ h2_; have BK10 := Aside0.mk h1_; have HG9 := Aside0.mk h2_; clear h1_ h2_))
          have TS : Aside0 (TSt w5 w9 g9 nn (.slice A7 1 c7) [[-1]]) := ⟨by
            have hge : w5.heap.size ≤ g9 := by have h1 := GEg9.out; have h2 := HB7.out.size; omega
            have hb8 := below_step HB7.out HB8.out
            exact ⟨BK10.out, Kd.N_mono (Kd.N_grown (Kd.N_below (Kd.N_bound HN7.out) HB8.out) HG9.out (fun k hk he => by injection he with he; have h1 := GEg9.out; have := hk.2; omega)) (fun k hk => ⟨hk.1, by have h1 := GEg9.out; have := hk.2; omega⟩), below_grown hb8 hb8.size HG9.out hge, hge⟩⟩
          have e20 : w9.cell? ⟨g2, 0, none⟩ = some (.int .i64 inp) := (blk_cell (blk_below BL2.out TS.out.below) 0).trans rfl
          have e21 : w9.cell? ⟨g2, 1, none⟩ = some (.slice A gs.length c) := (blk_cell (blk_below BL2.out TS.out.below) 1).trans rfl
          clear BK9 BK10 HG9 HB8 HN7 HB7 HO6 HB6 GEg9
          go_wp2
          go_loopw [63] (fun v63 wr => ∃ x v, v63 = .int .i64 x ∧ Aside0 (0 ≤ x ∧ x ≤ gs.length) ∧ Aside0 (TSt w5 wr g9 nn v ([[-1]] ++ trGates (inp + 2) (gs.take x.toNat)))) (fun v63 _ => gs.length - (intOf v63).toNat)
          case atStart => exact ⟨0, _, rfl, ⟨by omega, by omega⟩, TS⟩
          case round =>
            clear TS e20 e21
            obtain ⟨x, v, rfl, HX, TS⟩ := hrel
            by_cases c3 : x < (gs.length : Int)
            · have hlm := HF.out
              have hi := HI.out
              have hnn := HNN.out.1
              have p0 := HX.out.1
              obtain ⟨ad, e1, hx0, hx1⟩ := at_T62 HR.out x p0 c3
              cases e1
              have hgv := gValid_get HVB.out.symm p0 c3
              have htk := take62 p0 c3
              obtain ⟨a0, ha0⟩ : ∃ a0, a0 = (rd_T62 gs x).f0 := ⟨_, rfl⟩
              obtain ⟨a1, ha1⟩ : ∃ a1, a1 = (rd_T62 gs x).f1 := ⟨_, rfl⟩
              rw [← ha0, ← ha1] at hgv
              rw [← ha0] at hx0
              rw [← ha1] at hx1
              replace hx0 := (TS.out.below.cell (World.block_lt_of_cell? w5 _ ((HW5.out.cell (World.block_lt_of_cell? w _ hx0)).trans hx0))).trans ((HW5.out.cell (World.block_lt_of_cell? w _ hx0)).trans hx0)
              replace hx1 := (TS.out.below.cell (World.block_lt_of_cell? w5 _ ((HW5.out.cell (World.block_lt_of_cell? w _ hx1)).trans hx1))).trans ((HW5.out.cell (World.block_lt_of_cell? w _ hx1)).trans hx1)
              have hp := litC_range (x := a0) (n := nn) (by omega) (by have := HNN.out.1; omega) (by have := HNN.out.1; omega)
              have hq := litC_range (x := a1) (n := nn) (by omega) (by have := HNN.out.1; omega) (by have := HNN.out.1; omega)
              have hsn := trGates_snoc (gs.take x.toNat) (rd_T62 gs x) (inp + 2)
              rw [← htk, ← ha0, ← ha1, List.length_take, show ((min x.toNat gs.length : Nat) : Int) = x by omega] at hsn
              obtain ⟨b, hb⟩ : ∃ a : Int, a = x + 1 := ⟨_, rfl⟩
              obtain ⟨r1, hr1⟩ : ∃ a : Int, a = inp + x := ⟨_, rfl⟩
              obtain ⟨z, hz⟩ : ∃ a : Int, a = r1 + 2 := ⟨_, rfl⟩
              obtain ⟨nz, hnz⟩ : ∃ a : Int, a = -z := ⟨_, rfl⟩
              obtain ⟨np, hnp⟩ : ∃ a : Int, a = -litC a0 := ⟨_, rfl⟩
              obtain ⟨nqq, hnq⟩ : ∃ a : Int, a = -litC a1 := ⟨_, rfl⟩
              have kb : IntKind.i64.wrap (x + 1) = b := (IntWalk.i64_in _ (by omega)).trans hb.symm
              have kr1 : IntKind.i64.wrap (inp + x) = r1 := (IntWalk.i64_in _ (by omega)).trans hr1.symm
              have kz : IntKind.i64.wrap (r1 + 2) = z := (IntWalk.i64_in _ (by omega)).trans hz.symm
              have knz : IntKind.i64.wrap (-z) = nz := (IntWalk.i64_in _ (by omega)).trans hnz.symm
              have knp : IntKind.i64.wrap (-litC a0) = np := (IntWalk.i64_in _ (by omega)).trans hnp.symm
              have knq : IntKind.i64.wrap (-litC a1) = nqq := (IntWalk.i64_in _ (by omega)).trans hnq.symm
              have kb' : wrap64 (x + 1) = b := by unfold wrap64; omega
              have kr1' : wrap64 (inp + x) = r1 := by unfold wrap64; omega
              have kz' : wrap64 (r1 + 2) = z := by unfold wrap64; omega
              have knz' : wrap64 (-z) = nz := by unfold wrap64; omega
              have knp' : wrap64 (-litC a0) = np := by unfold wrap64; omega
              have knq' : wrap64 (-litC a1) = nqq := by unfold wrap64; omega
              rw [show inp + 2 + x = z by omega, ← hnz, ← hnp, ← hnq, ← hb] at hsn
              have HSN := Aside0.mk hsn
              have HB := Aside0.mk hb
              have h3 : decide (x < (gs.length : Int)) = true := decide_eq_true c3
              have p1 : (0 ≤ x) = True := eq_true p0
              have q1 : (x < (gs.length : Int)) = True := eq_true c3
              have C3 := Aside0.mk c3
              clear hlm hi hnn p0 hgv htk ha0 ha1 hp hq hsn hb hr1 hz hnz hnp hnq c3
              obtain ⟨cls, hcls⟩ : ∃ l, l = trGates (inp + 2) (gs.take x.toNat) := ⟨_, rfl⟩
              have HCL : Aside0 (cls.length ≤ 65536 * 3) := ⟨by rw [hcls, trGates_length, List.length_take]; have := HI.out.2.2; have := HI.out.1; omega⟩
              rw [← hcls] at HSN TS
              clear hcls
              go_upto_region 17 with (first
                | ((with_reducible refine gate_dst (N := 12) rfl ?_); refine box_event ?hg (N := 12) ?hd (cs := #[.int .i64 0, .int .i64 0]) (t := 62) ?hr ?_; (case hd => rfl); (case hg => rfl); (case hr => first | (go_simp; done) | (go_simp; rfl)); intro g12 hg_ w10 h1_ h2_; have BK12 := Aside0.mk h1_; have HB10 := Aside0.mk h2_; have GEg12 := Aside0.mk hg_; clear h1_ h2_ hg_)
                | ((with_reducible refine gate_ (.store 62 (.tmp 12) (.tmp 67)) rfl ?_); refine st_box rfl rfl 62 (.tmp 12) (.tmp 67) rfl (g := g12) (T := 62) (cur := #[.int .i64 0, .int .i64 0]) (u := .agg #[.int .i64 a0, .int .i64 a1]) rfl rfl (BK12.out) size62 rfl (by simp [Value.cells, Value.oneCell']) ?_; intro w11 h1_ h2_; have BK13 := Aside0.mk h1_; have HG11 := Aside0.mk h2_; clear h1_ h2_))
              have TS11 : Aside0 (TSt w5 w11 g9 nn v ([[-1]] ++ cls)) := ⟨by
                have hg := HG11.out
                have h1 := GEg12.out
                exact TS.out.later (below_grown HB10.out HB10.out.size hg (by omega))⟩
              have k20 : w11.cell? ⟨g2, 0, none⟩ = some (.int .i64 inp) := (blk_cell (blk_below BL2.out TS11.out.below) 0).trans rfl
              have k120 : w11.cell? ⟨g12, 0, none⟩ = some (.int .i64 a0) := (blk_cell BK13.out 0).trans rfl
              have k121 : w11.cell? ⟨g12, 1, none⟩ = some (.int .i64 a1) := (blk_cell BK13.out 1).trans rfl
              clear TS BK12 BK13 HB10 HG11 GEg12 hx0 hx1
              go_wp2
              go_quiet ((go_at_call 19; exact Calls.quiet_of_same (lit_calls _ _)))
              go_wp2_with (first
                | (((with_reducible refine gate_dst (N := 83) rfl ?_); refine Kd.R_lit kI _ 3 ?hg (N := 83) ?hd (xs := ([nz, litC a0] : List Int)) (inner := [.int .i64 (nz), .int .i64 (litC a0)]) (ok := fun _ => True) (okp := fun _ => True) ?hr ?hp (fun _ hk => hk) trivial (Below.refl _ _) (Nat.le_refl _) (by simp) ?_; (case hd => rfl); (case hg => rfl); (case hr => first | (go_simp; done) | (go_simp; rfl)); (case hp => exact (Reps.one (show Kd.M kI _ _ _ (nz) [.int .i64 (nz)] from rfl) (Reps.one (show Kd.M kI _ _ _ (litC a0) [.int .i64 (litC a0)] from rfl) (Reps.none _ _)))); intro v83 w12 h1_ h2_ h3_ h4_; have HO12 := Aside0.mk h1_; have HB12 := Aside0.mk h2_; clear h1_ h2_ h3_ h4_); obtain ⟨A12, c12, e12⟩ := Kd.R_slice HO12.out; subst e12))
              refine (tadd_calls w5 w12 g9 nn _ _ A12 c12 _ ((TS11.out.later (pw_below_drewN (Below.refl _ _) nq)).later HB12.out) (Kd.R_reads' HO12.out).2.2 (Kd.R_reads' HO12.out).2.1 (by simp) (by have := HCL.out; simp; omega)).mono ?_
              rintro e w13 ⟨rfl, v13, h13, _⟩
              have TS13 := Aside0.mk h13
              clear h13 HO12 HB12 TS11
              go_wp2_with (first
                | (((with_reducible refine gate_dst (N := 89) rfl ?_); refine Kd.R_lit kI _ 3 ?hg (N := 89) ?hd (xs := ([nz, litC a1] : List Int)) (inner := [.int .i64 (nz), .int .i64 (litC a1)]) (ok := fun _ => True) (okp := fun _ => True) ?hr ?hp (fun _ hk => hk) trivial (Below.refl _ _) (Nat.le_refl _) (by simp) ?_; (case hd => rfl); (case hg => rfl); (case hr => first | (go_simp; done) | (go_simp; rfl)); (case hp => exact (Reps.one (show Kd.M kI _ _ _ (nz) [.int .i64 (nz)] from rfl) (Reps.one (show Kd.M kI _ _ _ (litC a1) [.int .i64 (litC a1)] from rfl) (Reps.none _ _)))); intro v89 w14 h1_ h2_ h3_ h4_; have HO14 := Aside0.mk h1_; have HB14 := Aside0.mk h2_; clear h1_ h2_ h3_ h4_); obtain ⟨A14, c14, e14⟩ := Kd.R_slice HO14.out; subst e14))
              refine (tadd_calls w5 w14 g9 nn _ _ A14 c14 _ (TS13.out.later HB14.out) (Kd.R_reads' HO14.out).2.2 (Kd.R_reads' HO14.out).2.1 (by simp) (by have := HCL.out; simp; omega)).mono ?_
              rintro e w15 ⟨rfl, v15, h15, _⟩
              have TS15 := Aside0.mk h15
              clear h15 HO14 HB14 TS13
              go_wp2_with (first
                | (((with_reducible refine gate_dst (N := 97) rfl ?_); refine Kd.R_lit kI _ 3 ?hg (N := 97) ?hd (xs := ([z, np, nqq] : List Int)) (inner := [.int .i64 (z), .int .i64 (np), .int .i64 (nqq)]) (ok := fun _ => True) (okp := fun _ => True) ?hr ?hp (fun _ hk => hk) trivial (Below.refl _ _) (Nat.le_refl _) (by simp) ?_; (case hd => rfl); (case hg => rfl); (case hr => first | (go_simp; done) | (go_simp; rfl)); (case hp => exact (Reps.one (show Kd.M kI _ _ _ (z) [.int .i64 (z)] from rfl) (Reps.one (show Kd.M kI _ _ _ (np) [.int .i64 (np)] from rfl) (Reps.one (show Kd.M kI _ _ _ (nqq) [.int .i64 (nqq)] from rfl) (Reps.none _ _))))); intro v97 w16 h1_ h2_ h3_ h4_; have HO16 := Aside0.mk h1_; have HB16 := Aside0.mk h2_; clear h1_ h2_ h3_ h4_); obtain ⟨A16, c16, e16⟩ := Kd.R_slice HO16.out; subst e16))
              refine (tadd_calls w5 w16 g9 nn _ _ A16 c16 _ (TS15.out.later HB16.out) (Kd.R_reads' HO16.out).2.2 (Kd.R_reads' HO16.out).2.1 (by simp) (by have := HCL.out; simp; omega)).mono ?_
              rintro e w17 ⟨rfl, v17, h17, _⟩
              have TS17 := Aside0.mk h17
              clear h17 HO16 HB16 TS15
              go_wp2
              go_roundw
              case rel => exact ⟨b, _, rfl, ⟨by have := HB.out; have := HX.out.1; omega, by have := HB.out; have := C3.out; omega⟩, ⟨by
                have h := TS17.out
                rw [HSN.out]
                simpa [addC, List.append_assoc] using h⟩⟩
              case measure =>
                have := C3.out; have := HX.out.1; have := HB.out
                simp [intOf]; omega
            · have h3 : decide (x < (gs.length : Int)) = false := decide_eq_false c3
              have TS2 : Aside0 (TSt w5 wr g9 nn v ([[-1]] ++ trGates (inp + 2) gs)) := ⟨by
                have h := TS.out
                rwa [List.take_of_length_le (by omega)] at h⟩
              clear c3 TS
              go_wp2
              go_loopw [102] (fun v102 wr => ∃ x v, v102 = .int .i64 x ∧ Aside0 (0 ≤ x ∧ x ≤ l.length) ∧ Aside0 (TSt w5 wr g9 nn v ([[-1]] ++ trGates (inp + 2) gs ++ (l.take x.toNat).map fun x => addC [litC x]))) (fun v102 _ => l.length - (intOf v102).toNat)
              case atStart => exact ⟨0, _, rfl, ⟨by omega, by omega⟩, ⟨by simpa using TS2.out⟩⟩
              case round =>
                clear TS2 HX
                obtain ⟨x, v, rfl, HX, TS⟩ := hrel
                by_cases c4 : x < (l.length : Int)
                · have hlm := HLL.out
                  have p0 := HX.out.1
                  obtain ⟨ad, e1, hx0⟩ := Kd.at_int HRL.out x p0 c4
                  cases e1
                  have hx1 := (TS.out.below.cell (World.block_lt_of_cell? w5 _ ((HW5.out.cell (World.block_lt_of_cell? w _ hx0)).trans hx0))).trans ((HW5.out.cell (World.block_lt_of_cell? w _ hx0)).trans hx0)
                  have htk : (l.take (x + 1).toNat).map (fun x => addC [litC x]) = (l.take x.toNat).map (fun x => addC [litC x]) ++ [addC [litC (PrintWords.rd l x)]] := by
                    rw [show (x + 1).toNat = x.toNat + 1 by omega, List.take_add_one, List.getElem?_eq_getElem (show x.toNat < l.length by omega), List.map_append]
                    congr 1
                    simp only [Option.toList, List.map_cons, List.map_nil]
                    unfold PrintWords.rd
                    rw [List.getD_eq_getElem?_getD, List.getElem?_eq_getElem (show x.toNat < l.length by omega)]
                    rfl
                  obtain ⟨y, hy⟩ : ∃ y, y = PrintWords.rd l x := ⟨_, rfl⟩
                  rw [← hy] at htk hx1
                  obtain ⟨b, hb⟩ : ∃ a : Int, a = x + 1 := ⟨_, rfl⟩
                  have kb : IntKind.i64.wrap (x + 1) = b := (IntWalk.i64_in _ (by omega)).trans hb.symm
                  have kb' : wrap64 (x + 1) = b := by unfold wrap64; omega
                  rw [← hb] at htk
                  have h4 : decide (x < (l.length : Int)) = true := decide_eq_true c4
                  have p1 : (0 ≤ x) = True := eq_true p0
                  have q1 : (x < (l.length : Int)) = True := eq_true c4
                  have HTK := Aside0.mk htk
                  have HB := Aside0.mk hb
                  have C4 := Aside0.mk c4
                  have HCL : Aside0 (([[-1]] ++ trGates (inp + 2) gs ++ (l.take x.toNat).map fun x => addC [litC x]).length ≤ 1099511627776) := ⟨by
                    simp only [List.length_append, List.length_map, List.length_take, trGates_length, List.length_cons, List.length_nil]
                    have := C2.out; have := HS3.out; omega⟩
                  clear htk hb hy c4 p0 hlm hx0
                  go_wp2_with (first
                    | (go_at_call 19; refine (lit_calls _ _).mono ?_; rintro e w' ⟨rfl, rfl⟩)
                    | (((with_reducible refine gate_dst (N := 109) rfl ?_); refine Kd.R_lit kI _ 3 ?hg (N := 109) ?hd (xs := ([litC y] : List Int)) (inner := [.int .i64 (litC y)]) (ok := fun _ => True) (okp := fun _ => True) ?hr ?hp (fun _ hk => hk) trivial (Below.refl _ _) (Nat.le_refl _) (by simp) ?_; (case hd => rfl); (case hg => rfl); (case hr => first | (go_simp; done) | (go_simp; rfl)); (case hp => exact (Reps.one (show Kd.M kI _ _ _ (litC y) [.int .i64 (litC y)] from rfl) (Reps.none _ _))); intro v109 w12 h1_ h2_ h3_ h4_; have HO12 := Aside0.mk h1_; have HB12 := Aside0.mk h2_; clear h1_ h2_ h3_ h4_); obtain ⟨A12, c12, e12⟩ := Kd.R_slice HO12.out; subst e12))
                  refine (tadd_calls w5 w12 g9 nn _ _ A12 c12 _ (TS.out.later HB12.out) (Kd.R_reads' HO12.out).2.2 (Kd.R_reads' HO12.out).2.1 (by simp) HCL.out).mono ?_
                  rintro e w13 ⟨rfl, v13, h13, _⟩
                  have TS13 := Aside0.mk h13
                  clear h13 HO12 HB12 TS
                  go_wp2
                  go_roundw
                  case rel => exact ⟨b, _, rfl, ⟨by have := HB.out; have := HX.out.1; omega, by have := HB.out; have := C4.out; omega⟩, ⟨by
                    have h := TS13.out
                    rw [HTK.out]
                    simpa [addC, List.append_assoc] using h⟩⟩
                  case measure =>
                    have := C4.out; have := HX.out.1; have := HB.out
                    simp [intOf]; omega
                · have h4 : decide (x < (l.length : Int)) = false := decide_eq_false c4
                  have TS3 : Aside0 (TSt w5 wr g9 nn v (trF inp gs l)) := ⟨by
                    have h := TS.out
                    rwa [List.take_of_length_le (by omega)] at h⟩
                  clear c4 TS
                  obtain ⟨cls, hcls⟩ : ∃ c, c = trF inp gs l := ⟨_, rfl⟩
                  rw [← hcls] at TS3 HE
                  obtain ⟨A3, c3, e3⟩ := Kd.N_slice TS3.out.row
                  subst e3
                  have f0 : wr.cell? ⟨g9, 0, none⟩ = some (.int .i64 nn) := (blk_cell TS3.out.b 0).trans rfl
                  have f1 : wr.cell? ⟨g9, 1, none⟩ = some (.slice A3 cls.length c3) := (blk_cell TS3.out.b 1).trans rfl
                  have BL4r := Aside0.mk (blk_below BL4.out TS3.out.below)
                  clear hcls
                  go_wp2_with ((with_reducible refine gate_ (.store 24 (.tmp 4) (.tmp 112)) rfl ?_); refine st_box rfl rfl 24 (.tmp 4) (.tmp 112) rfl (g := g4) (T := 24) (cur := #[.int .i64 0, .slice none 0 0]) (u := .agg #[.int .i64 nn, .slice A3 cls.length c3]) rfl rfl (BL4r.out) size24 rfl (by simp [Value.cells, Value.oneCell']) ?_; intro w7 h1_ h2_; have BK7 := Aside0.mk h1_; have HG7 := Aside0.mk h2_; clear h1_ h2_)
                  refine bodyPost_ret (results_ct rfl _ _ g4 24 #[.int .i64 nn, .slice A3 cls.length c3] (0, 0) _ rfl BK7.out hu24 rfl (by kernel_rfl)) rfl ?_
                  have hb9 := below_base HW5.out TS3.out.below
                  rw [HE.out]
                  refine ⟨_, rfl, ?_, below_grown hb9 hb9.size HG7.out HG5.out.2.2.1⟩
                  refine Kd.N_lower (Kd.N_mono (Kd.N_grown TS3.out.row HG7.out (fun k hk he => by injection he with he; have := HG5.out; have := hk.1; omega)) (fun k hk => Nat.le_trans HW5.out.size hk.1)) HW5.out.size
end Go.Proofs.YteaohgebocbehaaGreatDoor.Hand
end
section
/- cnf.Propagate at wrong arguments: the walk. Conditions as written in each. -/
set_option linter.unusedVariables false
set_option linter.unusedSimpArgs false
namespace Go.Proofs.YteaohgebocbehaaGreatDoor.Hand
open Go.RowKit Go.Lib Go.Shelf Go.Proofs.YteaohgebocbehaaGreatDoorW Go.Proofs.YteaohgebocbehaaGreatDoorW.PrintWords Go.Proofs.YteaohgebocbehaaGreatDoorW.PrintLast Go.Proofs.YteaohgebocbehaaGreatDoorW.PrintMore Go.Proofs.YteaohgebocbehaaGreatDoor.Plain Go.Proofs.YteaohgebocbehaaGreatDoor.XA Go.Proofs.YteaohgebocbehaaGreatDoor.Fam
attribute [local go_sem] max2_int min2_int max_two min_two max_three min_three max_four min_four
set_option maxHeartbeats 4000000 in
set_option maxRecDepth 100000 in
theorem Propagate_invalid (n : Int) (A : Option Addr) (c : Nat) (cl : List (List Int)) (As : Option Addr) (cs : Nat) (start : List Int) (w : World) (hr : kL.C w A cl.length cl) (hc : cl.length ≤ c) (hf : Fine cl) (hv : validC n cl = false) :
    Calls Tryz.prog 24 #[.agg #[.int .i64 n, .slice A cl.length c], .slice As start.length cs] w fun e w' => e = .returned (.tuple #[.slice none 0 0, .bool false, .int .i64 1]) ∧ Below w.heap.size w w' := by
  have hu24 := Tryz.underlying24
  have HR := Aside0.mk hr
  have HC := Aside0.mk hc
  have HF := Aside0.mk hf
  have HV := Aside0.mk hv
  clear hr hc hf hv
  go_enter Tryz.func24, Tryz.ntmps24
  go_upto_region 1 with (first | ((with_reducible refine gate_dst (N := 2) rfl ?_); refine box_event ?hg (N := 2) ?hd (cs := #[.int .i64 n, .slice A cl.length c]) (t := 24) ?hr ?_; (case hd => rfl); (case hg => rfl); (case hr => first | (go_simp; done) | (go_simp; rfl)); intro gf hg_ w2 h1_ h2_; have BK2 := Aside0.mk h1_; have HB2 := Aside0.mk h2_; have GEgf := Aside0.mk hg_; clear h1_ h2_ hg_))
  have c20 : w2.cell? ⟨gf, 0, none⟩ = some (.int .i64 n) := (blk_cell BK2.out 0).trans rfl
  have c21 : w2.cell? ⟨gf, 1, none⟩ = some (.slice A cl.length c) := (blk_cell BK2.out 1).trans rfl
  have hvc : Calls Tryz.prog 15 #[.agg #[.int .i64 n, .slice A cl.length c]] w2 fun e w' => e = .returned (.bool false) ∧ Aside0 (Below w.heap.size w w') := by
    refine (Valid_calls n A c cl _ (Kd.C_below HR.out HB2.out) HC.out HF.out).mono ?_
    rintro e w4 ⟨rfl, hb⟩
    exact ⟨by rw [HV.out], ⟨below_step HB2.out hb⟩⟩
  go_wp2_with (go_at_call 15; refine hvc.mono ?_; rintro e w4 ⟨rfl, HB4⟩)
  go_ret3
  exact ⟨rfl, HB4.out⟩
set_option maxHeartbeats 4000000 in
set_option maxRecDepth 100000 in
theorem Propagate_bad (n : Int) (A : Option Addr) (c : Nat) (cl : List (List Int)) (As : Option Addr) (cs : Nat) (start : List Int) (w : World) (hr : kL.C w A cl.length cl) (hc : cl.length ≤ c) (hf : Fine cl) (hs : kI.C w As start.length start) (hsl : start.length ≤ 17592186044416) (hv : validC n cl = true) (hst : start.all (startOk n) = false) :
    Calls Tryz.prog 24 #[.agg #[.int .i64 n, .slice A cl.length c], .slice As start.length cs] w fun e w' => e = .returned (.tuple #[.slice none 0 0, .bool false, .int .i64 1]) ∧ Below w.heap.size w w' := by
  have hu24 := Tryz.underlying24
  have HR := Aside0.mk hr
  have HC := Aside0.mk hc
  have HF := Aside0.mk hf
  have HS := Aside0.mk hs
  have HSL := Aside0.mk hsl
  have HV := Aside0.mk hv
  have HST := Aside0.mk hst
  clear hr hc hf hs hsl hv hst
  go_enter Tryz.func24, Tryz.ntmps24
  go_upto_region 1 with (first | ((with_reducible refine gate_dst (N := 2) rfl ?_); refine box_event ?hg (N := 2) ?hd (cs := #[.int .i64 n, .slice A cl.length c]) (t := 24) ?hr ?_; (case hd => rfl); (case hg => rfl); (case hr => first | (go_simp; done) | (go_simp; rfl)); intro gf hg_ w2 h1_ h2_; have BK2 := Aside0.mk h1_; have HB2 := Aside0.mk h2_; have GEgf := Aside0.mk hg_; clear h1_ h2_ hg_))
  have c20 : w2.cell? ⟨gf, 0, none⟩ = some (.int .i64 n) := (blk_cell BK2.out 0).trans rfl
  have c21 : w2.cell? ⟨gf, 1, none⟩ = some (.slice A cl.length c) := (blk_cell BK2.out 1).trans rfl
  have hvi := (validC_iff _ _).1 HV.out
  have NK := Aside0.mk hvi.1
  clear hvi
  have hvc : Calls Tryz.prog 15 #[.agg #[.int .i64 n, .slice A cl.length c]] w2 fun e w' => e = .returned (.bool true) ∧ Aside0 (Below w.heap.size w w' ∧ w'.heap[gf]? = some (.cells #[.int .i64 n, .slice A cl.length c] 24 (0, 0))) := by
    refine (Valid_calls n A c cl _ (Kd.C_below HR.out HB2.out) HC.out HF.out).mono ?_
    rintro e w4 ⟨rfl, hb⟩
    exact ⟨by rw [HV.out], ⟨⟨below_step HB2.out hb, blk_below BK2.out hb⟩⟩⟩
  have hcf : ∀ W, Aside0 (Below w.heap.size w W ∧ W.heap[gf]? = some (.cells #[.int .i64 n, .slice A cl.length c] 24 (0, 0))) → Calls Tryz.prog 32 #[.slice As start.length cs, .func (.func 55) #[] #[.pointer (some ⟨gf, 0, none⟩)]] W fun e w' => e = .returned (.bool true) ∧ Aside0 (Below w.heap.size w w') := by
    intro W hW
    refine (containsFunc (fun x => x) As cs start start (by simp) W (Kd.C_below HS.out hW.out.1) HSL.out (fun y => !startOk n y) 55 #[.pointer (some ⟨gf, 0, none⟩)] prop1_enters (fun _ W2 y hb => prop1_calls gf n _ y W2 (blk_below hW.out.2 hb) NK.out.1 NK.out.2.1)).mono ?_
    rintro e w' ⟨rfl, q, rfl⟩
    refine ⟨?_, ⟨below_drawnN hW.out.1 q⟩⟩
    have : start.any (fun y => !startOk n y) = true := by
      obtain ⟨x, hx, h⟩ := List.all_eq_false.1 HST.out
      exact List.any_eq_true.2 ⟨x, hx, by simpa using h⟩
    rw [this]
  have HCF := Aside0.mk hcf
  clear hcf
  go_wp2_with (first
    | (go_at_call 15; refine hvc.mono ?_; rintro e w4 ⟨rfl, HB4⟩)
    | (go_at_call 32; refine (HCF.out _ HB4).mono ?_; rintro e w5 ⟨rfl, HB5⟩))
  go_ret3
  exact ⟨rfl, HB5.out⟩
end Go.Proofs.YteaohgebocbehaaGreatDoor.Hand
end
section
/- A range over a function value whose rounds come one by one from a known sequence: what the loop owes and what the iterator owes, round by round; no conditions beyond the premises. -/
namespace Go.Proofs.YteaohgebocbehaaGreatDoor.RangeN
open Go.RowKit Go.Shelf

variable {F : Fence} {n : Nat} {P : Program}

/-- Of the two blocks that the loop lays for itself (B, B + 1): they lie as they lay. -/
def Keep2 (B : Nat) (W W' : World) : Prop := ∀ k, B ≤ k → k < B + 2 → W'.heap[k]? = W.heap[k]?
theorem Keep2.refl (B : Nat) (W : World) : Keep2 B W W := fun _ _ _ => rfl
theorem Keep2.trans {B : Nat} {W1 W2 W3 : World} (h : Keep2 B W1 W2) (k : Keep2 B W2 W3) : Keep2 B W1 W3 := fun i h1 h2 => (k i h1 h2).trans (h i h1 h2)
theorem Keep2.below {B N : Nat} {W W' : World} (hb : Below N W W') (hN : B + 2 ≤ N) : Keep2 B W W' := fun k _ h2 => hb.block k (by omega)
theorem Keep2.setCell {B : Nat} (W : World) (p : Addr) (v : Value) (hp : p.block < B ∨ B + 2 ≤ p.block) : Keep2 B W (W.setCell p v) := fun k h1 h2 => Below.heap_setCell W p v k (by omega)
theorem Keep2.alloc {B : Nat} (W : World) (o : Obj) (h : B + 2 ≤ W.heap.size) : Keep2 B W (W.alloc o) := fun k _ h2 => Below.heap_alloc W o k (by omega)

/-- New blocks may come, and what lies from B on and holds no cells may turn: I bides it. -/
def Bides (B : Nat) (I : Nat → World → Prop) : Prop :=
  ∀ k W W' row, I k W → W.grownBy W' row → (∀ r, row = some r → B ≤ r ∧ ∃ o : Obj, W.heap[r]? = some o ∧ o.isCells = false) → I k W'
theorem Bides.alloc {B : Nat} {I : Nat → World → Prop} (h : Bides B I) {k : Nat} {W : World} (o : Obj) (hs : I k W) : I k (W.alloc o) :=
  h k W _ none hs (World.grownBy_alloc W o none) (fun r e => by cases e)
theorem Bides.putObj {B : Nat} {I : Nat → World → Prop} (h : Bides B I) {k : Nat} {W : World} {l : Nat} {o : Obj} (o' : Obj) (hs : I k W) (hB : B ≤ l) (hl : W.heap[l]? = some o) (ho : o.isCells = false) : I k (W.putObj l o') :=
  h k W _ (some l) hs (grownBy_putObj' W l o') (fun r e => by cases e; exact ⟨hB, o, hl, ho⟩)

/-- The iterator's contract: it hands over encs 0, encs 1, .., encs (N - 1), as long as a round says 'on'. Kq: its own steps; Kp: what the rounds keep for it. -/
def SeqN (F : Fence) (n : Nat) (P : Program) (g : Nat) (lb : Array Value) (encs : Nat → Array Value) (Kp : World → World → Prop) (Kq : Nat → World → World → Prop) (N : Nat) (w : World) : Prop :=
  ∀ (l : Nat) (J Jx : Nat → World → Prop) (W : World), Below w.heap.size w W → (∀ k A B, Kq W.heap.size A B → J k A → J k B) → (∀ k A B, Kq W.heap.size A B → Jx k A → Jx k B) →
    (∀ k W1, J k W1 → k < N → YieldAt F (n - 1) P l (encs k) W1 fun e W' =>
      (e = .returned (.bool true) ∧ J (k + 1) W' ∧ Kp W1 W') ∨ (e = .returned (.bool false) ∧ Jx (k + 1) W')) →
    J 0 W →
    CallsIn F n P g (#[.func (.yield l) #[] #[]] ++ lb) W fun e W' => (∃ v, e = .returned v) ∧ (J N W' ∨ ∃ k, k ≤ N ∧ Jx k W')

/-- How the body of round k may be left. -/
def bodyEnds (B : Nat) (Kp : World → World → Prop) (I : Nat → World → Prop) (Ix : Code → Nat → World → Prop) (k : Nat) (W : World) : Exit → Act → World → Prop
  | .normal, _, W' => Keep2 B W W' ∧ Kp W W' ∧ I (k + 1) W'
  | .ret, _, W' => Keep2 B W W' ∧ Ix .ret (k + 1) W'
  | .exit id, _, W' => Keep2 B W W' ∧ Ix (.exit id) (k + 1) W'
  | .goto t, _, W' => Keep2 B W W' ∧ Ix (.goto t) (k + 1) W'
  | .panic _, _, _ => False
  | .outgrown, _, _ => False

theorem rangeN {g : Operand} {ps : Array Tmp} {assign body : Code} {Q : Exit → Act → World → Prop} {a : Act} {w : World}
    (hro : F.round = none) (h1 : 1 ≤ n) {gf : Nat} {lb : Array Value} (hg : a.eval g = .func (.func gf) #[] lb) (hFg : F.fn gf) (eg : ∀ args w, (callFunc gf args).run P w = .ok (.enter gf args) w)
    {encs : Nat → Array Value} {Kp : World → World → Prop} {Kq : Nat → World → World → Prop} {N : Nat} {w0 : World} (hseq : SeqN F (n - 1) P gf lb encs Kp Kq N w0) (hb0 : Below w0.heap.size w0 w)
    (hKt : ∀ {A B C : World}, Kp A B → Kp B C → Kp A C) (hKb : ∀ (W : World) (l : Nat) (o o' : Obj), w.heap.size ≤ l → W.heap[l]? = some o → o.isCells = false → Kp W (W.putObj l o'))
    (hKq : ∀ A B, w.heap.size + 2 ≤ A.heap.size → Kq (w.heap.size + 2) A B → Keep2 w.heap.size A B) (hps : ∀ k, (encs k).size = ps.size)
    (I : Nat → World → Prop) (Ix : Code → Nat → World → Prop) (hIq : ∀ k A B, w.heap.size + 2 ≤ A.heap.size → Kq (w.heap.size + 2) A B → I k A → I k B) (hIxq : ∀ c k A B, w.heap.size + 2 ≤ A.heap.size → Kq (w.heap.size + 2) A B → Ix c k A → Ix c k B)
    (hI : Bides w.heap.size I) (hIx : ∀ c, Bides w.heap.size (Ix c)) (h0 : I 0 w) (Ax : Nat → Act → World → Prop) (hAx : ∀ a, Bides w.heap.size (fun k W => Ax k a W))
    (hassign : ∀ (l : Nat) (k : Nat) (W : World) (K : Act → World → Prop), I k W → k < N → w.heap.size + 2 ≤ W.heap.size → (∀ a' W', Ax k a' W' → Keep2 w.heap.size W W' → Kp W W' → K a' W') →
      assign.wpIn (F.inRound l) (n - 1 - 1) P (Exit.then K (fun _ _ _ => False)) { tmps := (ps.zip (encs k)).foldl (fun t (p, v) => t.setIfInBounds p v) a.tmps, defers := [] } W)
    (hbody : ∀ (l : Nat) (k : Nat) (a' : Act) (W : World), Ax k a' W → k < N → w.heap.size + 2 ≤ W.heap.size → body.wpIn (F.inRound l) (n - 1 - 1) P (bodyEnds w.heap.size Kp I Ix k W) a' W)
    (hdone : ∀ (D : Nat) (W : World), w.heap.size ≤ D → I N W → W.heap[D]? = some (.deferred (some [])) → Q .normal { a with defers := { target := .collected D, args := #[] } :: a.defers } W)
    (hstop : ∀ (D : Nat) (c : Code) (k : Nat) (W : World), w.heap.size ≤ D → k ≤ N → Ix c k W → W.heap[D]? = some (.deferred (some [])) → c.wpIn F n P Q { a with defers := { target := .collected D, args := #[] } :: a.defers } W) :
    (Code.rangeFunc g ps assign body).wpIn F n P Q a w := by
  refine wpIn_rangeFunc ?_
  intro fn hfn
  rw [hro]
  obtain ⟨rec, hrec⟩ : ∃ rec : LoopState → Option Code → Loop, rec = fun st pe => { state := st, pending := pe, fn, tmps := a.tmps, params := ps, assign, body, defers := w.heap.size } := ⟨_, rfl⟩
  obtain ⟨W1, hW1⟩ : ∃ W1, (w.alloc (.deferred (some []))).alloc (.loop (rec .ready none)) = W1 := ⟨_, rfl⟩
  have hS1 : W1.heap.size = w.heap.size + 2 := by rw [← hW1]; simp
  have hL1 : W1.heap[w.heap.size + 1]? = some (.loop (rec .ready none)) := by
    rw [← hW1]; have := World.alloc_heap_new (w.alloc (.deferred (some []))) (.loop (rec .ready none)); rwa [World.size_alloc] at this
  have hK1 : W1.heap[w.heap.size]? = some (.deferred (some [])) := by
    rw [← hW1]; exact (Below.heap_alloc _ _ _ (by simp)).trans (World.alloc_heap_new w _)
  have hI1 : I 0 W1 := by rw [← hW1]; exact hI.alloc _ (hI.alloc _ h0)
  have hb1 : Below w0.heap.size w0 W1 := by
    rw [← hW1]; exact hb0.trans ((((Below.refl _ w).alloc (Nat.le_refl _) _).alloc (by simp) _).mono hb0.size)
  refine ⟨w.heap.size + 1, [{ target := .collected w.heap.size, args := #[] }], W1, { target := .fn (.func gf) lb, args := #[.func (.yield (w.heap.size + 1)) #[] #[]] }, W1, gf,
    #[.func (.yield (w.heap.size + 1)) #[] #[]] ++ lb, W1, ?_, ?_, ?_, ?_, fun _ => h1, ?_⟩
  · rw [← hW1, hrec]; exact run_enterLoop_outer _ _ _ _ _
  · simp only [resolve, hg]
    simp [go_sem]
  · intro f' hf'; simp [Target.leads] at hf'; subst hf'; exact hFg
  · simp [invoke, go_sem, eg]
  · refine (hseq (w.heap.size + 1)
      (fun k W => I k W ∧ W.heap[w.heap.size + 1]? = some (.loop (rec .ready none)) ∧ W.heap[w.heap.size]? = some (.deferred (some [])))
      (fun k W => ∃ c, Ix c k W ∧ W.heap[w.heap.size + 1]? = some (.loop (rec .done (some c))) ∧ W.heap[w.heap.size]? = some (.deferred (some [])))
      W1 hb1 (fun k A B hq hs => ?_) (fun k A B hq hs => ?_) ?_ ⟨hI1, hL1, hK1⟩).mono ?_
    · rw [hS1] at hq
      have hz : w.heap.size + 2 ≤ A.heap.size := (Array.getElem?_eq_some_iff.1 hs.2.1).1
      exact ⟨hIq k A B hz hq hs.1, (hKq A B hz hq _ (by omega) (by omega)).trans hs.2.1, (hKq A B hz hq _ (by omega) (by omega)).trans hs.2.2⟩
    · rw [hS1] at hq
      obtain ⟨c, hc, hl, hk⟩ := hs
      have hz : w.heap.size + 2 ≤ A.heap.size := (Array.getElem?_eq_some_iff.1 hl).1
      exact ⟨c, hIxq c k A B hz hq hc, (hKq A B hz hq _ (by omega) (by omega)).trans hl, (hKq A B hz hq _ (by omega) (by omega)).trans hk⟩
    · rintro k W ⟨hi, hl, hk⟩ hlen
      have hlt : w.heap.size + 1 < W.heap.size := (Array.getElem?_eq_some_iff.1 hl).1
      have hy := run_yield (P := P) (args := encs k) hl (by rw [hrec]; exact hps k)
      rw [hrec] at hy
      refine ⟨fn, _, assign, body, hy, roundIn_of_wpIn hfn (hassign _ k W _ hi hlen (by omega) (fun a' V hax hkV hpV => ?_))⟩
      have hlV := (hkV _ (by omega) (by omega)).trans hl
      have hkVd := (hkV _ (by omega) (by omega)).trans hk
      have hltV : w.heap.size + 1 < V.heap.size := (Array.getElem?_eq_some_iff.1 hlV).1
      refine ⟨_, run_beginRound hlV (by rw [hrec]), ?_⟩
      have hl2 : (V.putObj (w.heap.size + 1) (.loop { rec .ready none with state := .busy })).heap[w.heap.size + 1]? = some (.loop { rec .ready none with state := .busy }) := World.putObj_heap_same hltV
      have hk2 : (V.putObj (w.heap.size + 1) (.loop { rec .ready none with state := .busy })).heap[w.heap.size]? = some (.deferred (some [])) := (World.putObj_heap_other (by omega)).trans hkVd
      have hw2 : Kp W (V.putObj (w.heap.size + 1) (.loop { rec .ready none with state := .busy })) := hKt hpV (hKb _ _ _ _ (by omega) hlV rfl)
      refine wpIn_mono (hbody _ k a' _ ((hAx a').putObj _ hax (by omega) hlV rfl) hlen (by simp; omega)) ?_
      have fin : ∀ (jump : Option Code) (W3 : World), Keep2 w.heap.size (V.putObj (w.heap.size + 1) (.loop { rec .ready none with state := .busy })) W3 →
          (Instr.endRound (w.heap.size + 1) jump).run P W3 = .ok (.bool jump.isNone) (W3.putObj (w.heap.size + 1) (.loop (rec (if jump.isNone then .ready else .done) jump))) ∧
          W3.heap[w.heap.size + 1]? = some (.loop { rec .ready none with state := .busy }) ∧
          (W3.putObj (w.heap.size + 1) (.loop (rec (if jump.isNone then .ready else .done) jump))).heap[w.heap.size + 1]? = some (.loop (rec (if jump.isNone then .ready else .done) jump)) ∧
          (W3.putObj (w.heap.size + 1) (.loop (rec (if jump.isNone then .ready else .done) jump))).heap[w.heap.size]? = some (.deferred (some [])) := fun jump W3 hk3 => by
        have hl3 := (hk3 _ (by omega) (by omega)).trans hl2
        have := run_endRound (P := P) jump hl3
        rw [hrec] at this ⊢
        exact ⟨this, by rw [hrec] at hl3; exact hl3, World.putObj_heap_same (Array.getElem?_eq_some_iff.1 hl3).1, (World.putObj_heap_other (by omega)).trans ((hk3 _ (by omega) (by omega)).trans hk2)⟩
      rintro e a3 W3 hp
      cases e with
      | normal =>
        obtain ⟨hk3, hkp3, hi3⟩ := hp
        obtain ⟨hr, hl3, hl4, hk4⟩ := fin none W3 hk3
        exact ⟨_, _, hr, .inl ⟨rfl, ⟨hI.putObj _ hi3 (by omega) hl3 rfl, hl4, hk4⟩, hKt (hKt hw2 hkp3) (hKb _ _ _ _ (by omega) hl3 rfl)⟩⟩
      | ret =>
        obtain ⟨hk3, hi3⟩ := hp
        obtain ⟨hr, hl3, hl4, hk4⟩ := fin (some .ret) W3 hk3
        exact ⟨_, _, hr, .inr ⟨rfl, .ret, (hIx _).putObj _ hi3 (by omega) hl3 rfl, hl4, hk4⟩⟩
      | exit id =>
        obtain ⟨hk3, hi3⟩ := hp
        obtain ⟨hr, hl3, hl4, hk4⟩ := fin (some (.exit id)) W3 hk3
        exact ⟨_, _, hr, .inr ⟨rfl, .exit id, (hIx _).putObj _ hi3 (by omega) hl3 rfl, hl4, hk4⟩⟩
      | goto t =>
        obtain ⟨hk3, hi3⟩ := hp
        obtain ⟨hr, hl3, hl4, hk4⟩ := fin (some (.goto t)) W3 hk3
        exact ⟨_, _, hr, .inr ⟨rfl, .goto t, (hIx _).putObj _ hi3 (by omega) hl3 rfl, hl4, hk4⟩⟩
      | panic ch => exact hp.elim
      | outgrown => exact hp.elim
    · rintro e W2 ⟨⟨v, rfl⟩, (⟨hi, hl, hk⟩ | ⟨k, hkN, c, hi, hl, hk⟩)⟩
      · exact ⟨none, _, by have := run_endLoop (P := P) hl (by rw [hrec]; simp); rw [hrec] at this; exact this, hdone _ _ (by omega) (hI.putObj _ hi (by omega) hl rfl) ((World.putObj_heap_other (by omega)).trans hk)⟩
      · exact ⟨some c, _, by have := run_endLoop (P := P) hl (by rw [hrec]; simp); rw [hrec] at this; exact this, hstop _ c k _ (by omega) hkN ((hIx c).putObj _ hi (by omega) hl rfl) ((World.putObj_heap_other (by omega)).trans hk)⟩

end Go.Proofs.YteaohgebocbehaaGreatDoor.RangeN
end
section
/- cnf.lines and the function that it returns: the lines one by one. -/
set_option linter.unusedVariables false
set_option linter.unusedSimpArgs false
namespace Go.Proofs.YteaohgebocbehaaGreatDoor.Hand
open Go.RowKit Go.Lib Go.Shelf Go.Proofs.YteaohgebocbehaaGreatDoorW Go.Proofs.YteaohgebocbehaaGreatDoorW.PrintWords Go.Proofs.YteaohgebocbehaaGreatDoorW.PrintLast Go.Proofs.YteaohgebocbehaaGreatDoorW.PrintMore Go.Proofs.YteaohgebocbehaaGreatDoor.Plain Go.Proofs.YteaohgebocbehaaGreatDoor.XA Go.Proofs.YteaohgebocbehaaGreatDoor.RangeN
attribute [local go_sem] Oper.semAt_some
namespace Lines
/-- What the rounds keep for the iterator: all that lay below n₀, and the text's box. -/
def Kp (n₀ Bs : Nat) (W W' : World) : Prop := Below n₀ W W' ∧ W'.heap[Bs]? = W.heap[Bs]?
/-- The iterator's own steps: the text's box may turn. -/
def Kq (n₀ Bs : Nat) (_B : Nat) (W W' : World) : Prop := Below n₀ W W' ∧ ∀ k, k < W.heap.size → k ≠ Bs → W'.heap[k]? = W.heap[k]?
def left (Bs : Nat) (W : World) : Nat := match W.cell? ⟨Bs, 0, none⟩ with | some (.string s) => s.size | _ => 0
end Lines
theorem lines_in (t : ByteArray) (w : World) : CallsIn Fence.wide 2 Tryz.prog 61 #[.string t] w fun e w' => e = .returned (.func (.func 82) #[] #[.pointer (some ⟨w.heap.size, 0, none⟩)]) ∧ w' = w.alloc (.cells #[.string t] 9) := by
  refine callsIn_of_wp Tryz.func61 rfl trivial ?_ rfl
  simp only [Tryz.ntmps61, List.size_toArray, List.length_cons, List.length_nil, Nat.reduceAdd, Nat.reduceSub, Array.replicate_succ, Array.replicate_zero, List.push_toArray, List.append_toArray, List.nil_append, List.cons_append]
  gi_wp2
  go_ret
  exact ⟨rfl, rfl⟩
theorem cut_calls (rest : List UInt8) (w : World) (hT : Tabs w) (hs : rest.length < 4294967281) :
    Calls Tryz.prog 83 #[.string (toB rest), .string { data := #[10] }] w fun e w' => e = .returned (.tuple #[.string (toB (cut rest [10]).1), .string (toB (cut rest [10]).2.1), .bool (cut rest [10]).2.2]) ∧ ∃ n, w' = w.drewN n := by
  obtain ⟨m, hm⟩ := hT.most
  exact Tryz.strings_Cut (toB rest) ⟨#[10]⟩ m w hs hm
set_option maxRecDepth 100000 in
set_option maxHeartbeats 4000000 in
theorem lines1_stops (Bs n₀ : Nat) (text : List UInt8) (hs : text.length < 4294967281) (w : World) (hT : Tabs w) (h8 : 8 ≤ n₀) (hn₀ : n₀ ≤ Bs) (hb : w.heap[Bs]? = some (.cells #[.string (toB text)] 9 (0, 0))) :
    SeqN Fence.wide 2 Tryz.prog 82 #[.pointer (some ⟨Bs, 0, none⟩)] (fun k => #[.string (toB ((linesOf text).getD k []))]) (Lines.Kp n₀ Bs) (Lines.Kq n₀ Bs) (linesOf text).length w := by
  intro l J Jx W hW hJ hJx hY h0
  have hBs := blk_lt hb
  have hbW : W.heap[Bs]? = some (.cells #[.string (toB text)] 9 (0, 0)) := (hW.block Bs hBs).trans hb
  have HW := Aside0.mk (show Tabs W from hT.same hW)
  have HbW := Aside0.mk hbW
  have HY := Aside0.mk hY
  have HJ := Aside0.mk hJ
  clear hbW hY hJ hJx hb hW hT
  refine callsIn_of_wp Tryz.func82 rfl trivial ?_ rfl
  simp only [Tryz.ntmps82, List.size_toArray, List.length_cons, List.length_nil, Nat.reduceAdd, Nat.reduceSub, Array.replicate_succ, Array.replicate_zero, List.push_toArray, List.append_toArray, List.nil_append, List.cons_append]
  gi_wp2
  gi_loopw [3] (fun _ wr => ∃ (k : Nat) (rest : List UInt8), J k wr ∧ Aside0 (k + (linesOf rest).length = (linesOf text).length ∧ (linesOf text).drop k = linesOf rest ∧ rest.length ≤ text.length ∧ wr.heap[Bs]? = some (.cells #[.string (toB rest)] 9 (0, 0)) ∧ Tabs wr)) (fun _ wr => Lines.left Bs wr)
  case atStart => exact ⟨0, text, h0, ⟨by simp, by simp, Nat.le_refl _, HbW.out, HW.out⟩⟩
  case round =>
    obtain ⟨k, rest, hJs, HR⟩ := hrel
    have hcz : wr.cell? ⟨Bs, 0, none⟩ = some (.string (toB rest)) := (blk_cell HR.out.2.2.2.1 0).trans rfl
    by_cases hr : rest = []
    · subst hr
      have he : (toB []).toList.isEmpty = true := by simp [toB, ByteArray.toList_eq]
      gi_wp2
      go_end0
      exact ⟨⟨_, rfl⟩, .inl (by have := HR.out.1; rw [linesOf_nil, List.length_nil, Nat.add_zero] at this; rw [← this]; exact hJs)⟩
    · have he : (toB rest).toList.isEmpty = false := by
        cases rest with
        | nil => exact absurd rfl hr
        | cons b t => rw [show (toB (b :: t)).toList = b :: t from by simp [toB, ByteArray.toList_eq]]; rfl
      have hcons := linesOf_cons hr
      have hlen := cut_len rest hr
      have hget : (linesOf text).getD k [] = (cut rest [10]).1 := by
        have h1 := HR.out.2.1
        rw [hcons] at h1
        have h2 : ((linesOf text).drop k)[0]? = some (cut rest [10]).1 := by rw [h1]; rfl
        rw [List.getElem?_drop, Nat.add_zero] at h2
        rw [List.getD_eq_getElem?_getD, h2]
        rfl
      have hlt : k < (linesOf text).length := by have h1 := HR.out.1; rw [hcons, List.length_cons] at h1; omega
      obtain ⟨line, hline⟩ : ∃ x, x = (cut rest [10]).1 := ⟨_, rfl⟩
      obtain ⟨rest2, hrest2⟩ : ∃ x, x = (cut rest [10]).2.1 := ⟨_, rfl⟩
      have HCUT := Aside0.mk (cut_calls rest wr HR.out.2.2.2.2 (by have := HR.out.2.2.1; omega))
      rw [← hline] at hget
      rw [← hline, ← hrest2] at hcons HCUT
      rw [← hrest2] at hlen
      obtain ⟨fb, hfb⟩ : ∃ x, x = (cut rest [10]).2.2 := ⟨_, rfl⟩
      rw [← hfb] at HCUT
      have HCONS := Aside0.mk hcons
      have HLEN := Aside0.mk hlen
      have HLT := Aside0.mk hlt
      have HGET := Aside0.mk hget
      clear hcons hlen hlt hget hline hrest2 hfb hr
      gi_wp2_with (refine ⟨trivial, ?_⟩; gi_at_call 83; refine (callsIn_wide.2 HCUT.out).mono ?_; rintro e w' ⟨rfl, nq, rfl⟩; obtain ⟨fn, tmps, assign, body, hy, hR⟩ := HY.out k (wr.drewN nq) (HJ.out k wr _ ⟨below_drewN _ _, fun _ _ _ => rfl⟩ hJs) HLT.out; rw [HGET.out] at hy)
      refine hR.mono ?_
      rintro e W3 (⟨rfl, hJ3, hk3⟩ | ⟨rfl, hJx3⟩)
      · have hb3 : W3.heap[Bs]? = some (.cells #[.string (toB rest)] 9 (0, 0)) := hk3.2.trans HR.out.2.2.2.1
        have f3 : W3.frozen? ⟨Bs, 0, none⟩ = false := blk_frozen hb3 0
        have c3 : W3.cell? ⟨Bs, 0, none⟩ = some (.string (toB rest)) := (blk_cell hb3 0).trans rfl
        have HT3 := Aside0.mk ((HR.out.2.2.2.2.drawn nq).below hk3.1 h8)
        have HB3 := Aside0.mk hb3
        clear hk3 hb3 hy hR hcz he
        gi_wp2
        go_roundw
        case rel => exact ⟨k + 1, rest2, HJ.out _ W3 _ ⟨(Below.refl n₀ W3).setCell (p := ⟨Bs, 0, none⟩) hn₀ _, fun j _ hj => Below.heap_setCell W3 ⟨Bs, 0, none⟩ _ j hj⟩ hJ3,
          ⟨by have := HR.out.1; rw [HCONS.out, List.length_cons] at this; omega, by
            have h1 := HR.out.2.1
            rw [← List.drop_drop, h1, HCONS.out]
            rfl, by have := HLEN.out; have := HR.out.2.2.1; omega, (blk_set HB3.out 0 _).trans rfl, HT3.out.below ((Below.refl n₀ W3).setCell (p := ⟨Bs, 0, none⟩) hn₀ _) h8⟩⟩
        case measure =>
          have h1 : (W3.setCell ⟨Bs, 0, none⟩ (.string (toB rest2))).cell? ⟨Bs, 0, none⟩ = some (.string (toB rest2)) := (blk_cell (blk_set HB3.out 0 _) 0).trans rfl
          have h2 : wr.cell? ⟨Bs, 0, none⟩ = some (.string (toB rest)) := (blk_cell HR.out.2.2.2.1 0).trans rfl
          unfold Lines.left
          rw [h1, h2]
          exact HLEN.out
      · gi_wp2
        refine bodyPost_ret (results_none rfl _ _ _) rfl ?_
        exact ⟨⟨_, rfl⟩, .inr ⟨k + 1, HLT.out, hJx3⟩⟩
end Go.Proofs.YteaohgebocbehaaGreatDoor.Hand
end
section
/- An append's law of the plain walk, used in a walk within a fence. -/
set_option linter.unusedVariables false
namespace Go.Proofs.YteaohgebocbehaaGreatDoor.Hand
open Go.RowKit Go.Lib
theorem append_in {F : Fence} {n : Nat} {P : Program} {ops : Array Oper} {rest : List Oper} {o : Oper} {a : Act} {Q : Exit → Act → World → Prop} {W : World} (R : Act → World → Prop)
    (hg : o.guard = none) (s x : Operand) (t : TypeId) (hop : o.op = Op.call { callee := Callee.builtin Builtin.append, args := #[s, x], argTypes := #[t, t] })
    (h : wpList P ops (fun e a w => e = .normal ∧ R a w) [o] a W) (hK : ∀ a1 w1, R a1 w1 → wpListIn F n P ops Q rest a1 w1) : wpListIn F n P ops Q (o :: rest) a W := by
  have h2 : o.upon P a (fun a w => (Exit.normal = .normal ∧ R a w)) (fun e a w => e = .normal ∧ R a w) ((execOp a.eval o).run P W) := by
    have h1 : o.wp P a W (wpList P ops (fun e a w => e = .normal ∧ R a w) []) (fun e a w => e = .normal ∧ R a w) ∨ o.asks P a W ∧ LetsOut (fun e (a : Act) (w : World) => e = .normal ∧ R a w) := by simpa only [wpList, Region.wanted, hg, if_true] using h
    rcases h1 with h1 | ⟨_, h1⟩
    · exact h1
    · exact absurd h1 (by simp [LetsOut])
  refine wpListIn_plain hg fun K hK' => ?_
  unfold Oper.wpIn
  refine ⟨?_, ?_⟩
  · simp [Oper.about, hop, resolve, Target.leads, Sem.run_pure]
  · rw [Oper.semAt_plain F _ _ (by rw [hop]; intro c hc'; cases hc')]
    simp only [execOp, hop, resolve, invoke, builtin] at h2 ⊢
    simp [Result.andThen] at h2 ⊢
    generalize Sem.run P (Builtin.append_ #[t, t] o.type #[a.eval s, a.eval x]) W = r at h2 ⊢
    cases r with
    | ok v w1 => exact hK' _ _ (hK _ _ h2)
    | halt e w1 => cases e <;> simp [Oper.upon] at h2
theorem append_v {F : Fence} {n : Nat} {P : Program} {ops : Array Oper} {rest : List Oper} {o : Oper} {a : Act} {Q : Exit → Act → World → Prop} {W : World} (R : Value → World → Prop)
    (hg : o.guard = none) (s x : Operand) (t : TypeId) (hop : o.op = Op.call { callee := Callee.builtin Builtin.append, args := #[s, x], argTypes := #[t, t] })
    (h : wpList P ops (fun e a1 w1 => e = .normal ∧ ∃ v1, a1 = a.put o.dst v1 ∧ R v1 w1) [o] a W) (hK : ∀ v1 w1, R v1 w1 → wpListIn F n P ops Q rest (a.put o.dst v1) w1) : wpListIn F n P ops Q (o :: rest) a W :=
  append_in (fun a1 w1 => ∃ v1, a1 = a.put o.dst v1 ∧ R v1 w1) hg s x t hop h (fun a1 w1 ⟨v1, e, h⟩ => e ▸ hK v1 w1 h)
end Go.Proofs.YteaohgebocbehaaGreatDoor.Hand
end
section
/- cnf.Parse at any text of less than 2^32 - 15 bytes: the walk. -/
set_option linter.unusedVariables false
set_option linter.unusedSimpArgs false
namespace Go.Proofs.YteaohgebocbehaaGreatDoor.Hand
open Go.RowKit Go.Lib Go.Shelf Go.Proofs.YteaohgebocbehaaGreatDoorW Go.Proofs.YteaohgebocbehaaGreatDoorW.PrintWords Go.Proofs.YteaohgebocbehaaGreatDoorW.PrintLast Go.Proofs.YteaohgebocbehaaGreatDoorW.PrintMore Go.Proofs.YteaohgebocbehaaGreatDoor.Plain Go.Proofs.YteaohgebocbehaaGreatDoor.XA Go.Proofs.YteaohgebocbehaaGreatDoor.RangeN
attribute [local go_sem] Oper.semAt_some
/-- What Parse's loop holds: its four boxes, the clauses' rows (made from B on). -/
structure PSt (w W : World) (B : Nat) (s : PP) (v : Value) : Prop where
  b2 : W.heap[w.heap.size]? = some (.cells #[.int .i64 0, .slice none 0 0] 24 (0, 0))
  b3 : W.heap[w.heap.size + 1]? = some (.cells #[.int .i64 0] 39 (0, 0))
  b4 : W.heap[w.heap.size + 1 + 1]? = some (.cells #[.int .i64 s.n, v] 24 (0, 0))
  b5 : W.heap[w.heap.size + 1 + 1 + 1]? = some (.cells #[.bool s.first] 4 (0, 0))
  row : kLs.R 25 W B (fun _ => True) v s.cls
  below : Below w.heap.size w W
theorem PSt.turn {w W W' : World} {B : Nat} {s : PP} {v : Value} (h : PSt w W B s v) (hB : w.heap.size + 5 ≤ B)
    (hk : ∀ k, k < W.heap.size → (k < w.heap.size + 4 ∨ B ≤ k ∧ ∃ q cells, W.heap[k]? = some (.cells cells q (0, 0))) → W'.heap[k]? = W.heap[k]?) (hb : Below w.heap.size W W') : PSt w W' B s v :=
  ⟨(hk _ (blk_lt h.b2) (.inl (by omega))).trans h.b2, (hk _ (blk_lt h.b3) (.inl (by omega))).trans h.b3, (hk _ (blk_lt h.b4) (.inl (by omega))).trans h.b4, (hk _ (blk_lt h.b5) (.inl (by omega))).trans h.b5,
   Kd.R_mono (Kd.R_step (Kd.R_bound h.row) (fun k ho hl => hk k hl (.inr ⟨ho.2.1, by obtain ⟨_, _, _, q, _, c, hc⟩ := ho; exact ⟨q, c, hc⟩⟩))) (fun _ _ => trivial),
   h.below.trans hb⟩
theorem PSt.later {w W W' : World} {B : Nat} {s : PP} {v : Value} (h : PSt w W B s v) (hb : Below W.heap.size W W') : PSt w W' B s v :=
  ⟨blk_below h.b2 hb, blk_below h.b3 hb, blk_below h.b4 hb, blk_below h.b5 hb, Kd.R_below h.row hb, below_step h.below hb⟩
/-- What a call of Parse tells. -/
def ParsePost (w : World) (r : Int × List (List Int) × Int) (e : Ending) (w' : World) : Prop :=
  ∃ v, e = .returned (.tuple #[.agg #[.int .i64 r.1, v], .int .i64 r.2.2]) ∧ Kd.N kLs 25 w' w.heap.size (fun k => w.heap.size ≤ k) v r.2.1 ∧ Below w.heap.size w w'
/-- Between two rounds: what the lines so far have told. -/
def LS (w : World) (text : List UInt8) (B k : Nat) (W : World) : Prop :=
  ∃ s v, PP.run ⟨true, 0, []⟩ (linesOf text) = PP.run s ((linesOf text).drop k) ∧ PSt w W B s v ∧ s.cls.length ≤ k ∧ ∀ c ∈ s.cls, c.length ≤ text.length + 2
/-- A round has left: the first line is none. -/
def LX (w : World) (text : List UInt8) (W : World) : Prop :=
  PP.run ⟨true, 0, []⟩ (linesOf text) = none ∧ W.heap[w.heap.size]? = some (.cells #[.int .i64 0, .slice none 0 0] 24 (0, 0)) ∧ W.heap[w.heap.size + 1]? = some (.cells #[.int .i64 3] 39 (0, 0)) ∧ Below w.heap.size w W
theorem LS.turn {w W W' : World} {text : List UInt8} {B k : Nat} (h : LS w text B k W) (hB : w.heap.size + 5 ≤ B)
    (hk : ∀ k, k < W.heap.size → (k < w.heap.size + 4 ∨ B ≤ k ∧ ∃ q cells, W.heap[k]? = some (.cells cells q (0, 0))) → W'.heap[k]? = W.heap[k]?) (hb : Below w.heap.size W W') : LS w text B k W' := by
  obtain ⟨s, v, h1, h2, h3⟩ := h
  exact ⟨s, v, h1, h2.turn hB hk hb, h3⟩
theorem LX.turn {w W W' : World} {text : List UInt8} (h : LX w text W) (hk : ∀ k, k < W.heap.size → k < w.heap.size + 4 → W'.heap[k]? = W.heap[k]?) (hb : Below w.heap.size W W') : LX w text W' :=
  ⟨h.1, (hk _ (blk_lt h.2.1) (by omega)).trans h.2.1, (hk _ (blk_lt h.2.2.1) (by omega)).trans h.2.2.1, h.2.2.2.trans hb⟩
theorem split_calls (line : List UInt8) (W : World) (hT : Tabs W) (hs : line.length < 4294967281) :
    Calls Tryz.prog 62 #[.string (toB line), .string { data := #[32] }] W fun e w' => e = .returned (.slice (some ⟨W.heap.size, 0, none⟩) (words line).length (words line).length) ∧ w'.heap[W.heap.size]? = some (.cells ((words line).map Value.string).toArray 9 (0, 0)) ∧ Below W.heap.size W w' := by
  obtain ⟨m, hm⟩ := hT.most
  have h := Tryz.strings_Split (toB line) spaceB m W hs hm (by decide)
  refine h.mono ?_
  rintro e w' ⟨rfl, rfl⟩
  rw [words_len]
  exact ⟨rfl, blk_new _ _, below_alloc (Below.refl _ _) _⟩
theorem word_cell {W : World} {line : List UInt8} {gw : Nat} (h : W.heap[gw]? = some (.cells ((words line).map Value.string).toArray 9 (0, 0))) (i : Nat) (hi : i < (words line).length) : W.cell? ⟨gw, i, none⟩ = some (.string (wordAt line i)) := by
  refine (blk_cell h i).trans ?_
  simp [wordAt, List.getElem?_eq_getElem hi]
theorem wordAt_size (line : List UInt8) (i : Nat) : (wordAt line i).size ≤ line.length := by
  unfold wordAt
  rw [List.getD_eq_getElem?_getD]
  cases h : (words line)[i]? with
  | none => exact Nat.zero_le _
  | some x => exact words_size line x (List.mem_of_getElem? h)
theorem split_at {w W : World} {B : Nat} {s : PP} {v : Value} (line : List UInt8) (hS : PSt w W B s v) (hT : Tabs W) (hs : line.length < 4294967281) :
    Calls Tryz.prog 62 #[.string (toB line), .string { data := #[32] }] W fun e w' => e = .returned (.slice (some ⟨W.heap.size, 0, none⟩) (words line).length (words line).length) ∧
      (w'.cell? ⟨w.heap.size + 1 + 1 + 1, 0, none⟩ = some (.bool s.first) ∧ w'.cell? ⟨w.heap.size, 0, none⟩ = some (.int .i64 0) ∧ w'.cell? ⟨w.heap.size, 1, none⟩ = some (.slice none 0 0) ∧ w'.cell? ⟨w.heap.size + 1, 0, none⟩ = some (.int .i64 0) ∧ w'.cell? ⟨w.heap.size + 1 + 1, 1, none⟩ = some v) ∧
      (w'.frozen? ⟨w.heap.size, 0, none⟩ = false ∧ w'.frozen? ⟨w.heap.size, 1, none⟩ = false ∧ w'.frozen? ⟨w.heap.size + 1, 0, none⟩ = false) ∧
      Aside0 (PSt w w' B s v) ∧ Aside0 (w'.heap[W.heap.size]? = some (.cells ((words line).map Value.string).toArray 9 (0, 0))) ∧ Aside0 (Below W.heap.size W w') := by
  refine (split_calls line W hT hs).mono ?_
  rintro e w' ⟨rfl, h1, h2⟩
  have h := hS.later h2
  exact ⟨rfl, ⟨(blk_cell h.b5 0).trans rfl, (blk_cell h.b2 0).trans rfl, (blk_cell h.b2 1).trans rfl, (blk_cell h.b3 0).trans rfl, (blk_cell h.b4 1).trans rfl⟩, ⟨blk_frozen h.b2 0, blk_frozen h.b2 1, blk_frozen h.b3 0⟩, ⟨h⟩, ⟨h1⟩, ⟨h2⟩⟩
theorem atoi_at {w W : World} {B : Nat} {s : PP} {v : Value} (x : ByteArray) (hS : PSt w W B s v) (hT : Tabs W) (hs : x.size < 4294967281) :
    Calls Tryz.prog 63 #[.string x] W fun e w' => ∃ er, e = .returned (.tuple #[.int .i64 (atoiV x.data.toList), er]) ∧
      (w'.cell? ⟨w.heap.size + 1 + 1, 0, none⟩ = some (.int .i64 s.n) ∧ w'.cell? ⟨w.heap.size + 1 + 1 + 1, 0, none⟩ = some (.bool s.first)) ∧ (w'.frozen? ⟨w.heap.size + 1 + 1, 0, none⟩ = false ∧ w'.frozen? ⟨w.heap.size + 1 + 1 + 1, 0, none⟩ = false) ∧
      Aside0 (PSt w w' B s v) ∧ Aside0 (Below W.heap.size W w') := by
  refine (atoi x (by omega) W hT).mono ?_
  rintro e w' ⟨⟨er, rfl⟩, h2⟩
  have h := hS.later h2
  exact ⟨er, rfl, ⟨(blk_cell h.b4 0).trans rfl, (blk_cell h.b5 0).trans rfl⟩, ⟨blk_frozen h.b4 0, blk_frozen h.b5 0⟩, ⟨h⟩, ⟨h2⟩⟩
theorem PSt.put {w W : World} {B : Nat} {s : PP} {v : Value} (h : PSt w W B s v) (hB : w.heap.size + 5 ≤ B) (n : Int) :
    PSt w ((W.setCell ⟨w.heap.size + 1 + 1, 0, none⟩ (.int .i64 n)).setCell ⟨w.heap.size + 1 + 1 + 1, 0, none⟩ (.bool false)) B ⟨false, n, s.cls⟩ v :=
  ⟨blk_far (blk_far h.b2 (by simp <;> omega) _) (by simp <;> omega) _, blk_far (blk_far h.b3 (by simp) _) (by simp <;> omega) _, (blk_far (blk_set h.b4 0 _) (by simp) _).trans rfl, (blk_set (blk_far h.b5 (by simp) _) 0 _).trans rfl,
   Kd.R_mono (Kd.R_step (Kd.R_bound h.row) (fun k ho hl => by rw [Below.heap_setCell _ _ _ _ (by have := ho.2.1; simp; omega), Below.heap_setCell _ _ _ _ (by have := ho.2.1; simp; omega)])) (fun _ _ => trivial),
   (h.below.setCell (p := ⟨w.heap.size + 1 + 1, 0, none⟩) (by simp <;> omega) _).setCell (p := ⟨w.heap.size + 1 + 1 + 1, 0, none⟩) (by simp <;> omega) _⟩
theorem PSt.add {w W W' : World} {B : Nat} {s : PP} {v : Value} {A : Option Addr} {n c : Nat} {l : List Int} (h : PSt w W B s v) (hB : w.heap.size + 5 ≤ B) (hb : Below B W W') (hf : s.first = false) (hr : kLs.R 25 W' B (fun _ => True) (.slice A n c) (s.cls ++ [l])) :
    PSt w (W'.setCell ⟨w.heap.size + 1 + 1, 1, none⟩ (.slice A n c)) B ⟨false, s.n, s.cls ++ [l]⟩ (.slice A n c) :=
  ⟨blk_far ((hb.block _ (by omega)).trans h.b2) (by simp <;> omega) _, blk_far ((hb.block _ (by omega)).trans h.b3) (by simp) _, (blk_set ((hb.block _ (by omega)).trans h.b4) 1 _).trans rfl, (blk_far ((hb.block _ (by omega)).trans h.b5) (by simp) _).trans (by rw [hf]),
   Kd.R_mono (Kd.R_step (Kd.R_bound hr) (fun k ho hl => Below.heap_setCell _ _ _ _ (by have := ho.2.1; simp; omega))) (fun _ _ => trivial),
   (h.below.trans (hb.mono (by omega))).setCell (p := ⟨w.heap.size + 1 + 1, 1, none⟩) (by simp <;> omega) _⟩
theorem format_at {w W : World} {B : Nat} {s : PP} {A : Option Addr} {c : Nat} (hS : PSt w W B s (.slice A s.cls.length c)) (hT : Tabs W) (hf : Fine s.cls) :
    Calls Tryz.prog 28 #[.agg #[.int .i64 s.n, .slice A s.cls.length c]] W fun e w' => e = .returned (.string (toB (formatC s.n s.cls))) ∧
      (w'.cell? ⟨w.heap.size, 0, none⟩ = some (.int .i64 0) ∧ w'.cell? ⟨w.heap.size, 1, none⟩ = some (.slice none 0 0) ∧ w'.cell? ⟨w.heap.size + 1, 0, none⟩ = some (.int .i64 0) ∧ w'.cell? ⟨w.heap.size + 1 + 1, 0, none⟩ = some (.int .i64 s.n) ∧ w'.cell? ⟨w.heap.size + 1 + 1, 1, none⟩ = some (.slice A s.cls.length c)) ∧
      (w'.frozen? ⟨w.heap.size, 0, none⟩ = false ∧ w'.frozen? ⟨w.heap.size, 1, none⟩ = false ∧ w'.frozen? ⟨w.heap.size + 1, 0, none⟩ = false) ∧
      Aside0 (PSt w w' B s (.slice A s.cls.length c)) ∧ Aside0 (Below W.heap.size W w') := by
  have hR := Kd.R_reads' hS.row
  refine (Format_calls s.n A c s.cls W hR.2.2 hR.2.1 hf hT).mono ?_
  rintro e w' ⟨rfl, h2⟩
  have h := hS.later h2
  exact ⟨rfl, ⟨(blk_cell h.b2 0).trans rfl, (blk_cell h.b2 1).trans rfl, (blk_cell h.b3 0).trans rfl, (blk_cell h.b4 0).trans rfl, (blk_cell h.b4 1).trans rfl⟩, ⟨blk_frozen h.b2 0, blk_frozen h.b2 1, blk_frozen h.b3 0⟩, ⟨h⟩, ⟨h2⟩⟩
theorem toB_inj {a b : List UInt8} (h : toB a = toB b) : a = b := by
  have := congrArg (fun x : ByteArray => x.data.toList) h
  simpa [toB] using this
theorem toB_list (a : List UInt8) : (toB a).toList = a := by simp [toB, ByteArray.toList_eq]
theorem parse_res (V : World) (g2 g3 : Nat) (n e : Int) (v : Value) (tmps : Array Value) (h2 : tmps.getD 2 undef = .pointer (some ⟨g2, 0, none⟩)) (h3 : tmps.getD 3 undef = .pointer (some ⟨g3, 0, none⟩))
    (b2 : V.heap[g2]? = some (.cells #[.int .i64 n, v] 24 (0, 0))) (b3 : V.heap[g3]? = some (.cells #[.int .i64 e] 39 (0, 0))) :
    (results Tryz.f26 tmps).run Tryz.prog V = .ok (.tuple #[.agg #[.int .i64 n, v], .int .i64 e]) V := by
  have hc : V.cell? ⟨g3, 0, none⟩ = some (.int .i64 e) := (blk_cell b3 0).trans rfl
  have h2' : tmps[2]?.getD undef = .pointer (some ⟨g2, 0, none⟩) := by simpa using h2
  have h3' : tmps[3]?.getD undef = .pointer (some ⟨g3, 0, none⟩) := by simpa using h3
  have hl := run_loadVar_row (P := Tryz.prog) V g2 24 24 #[.int .i64 n, v] (0, 0) _ b2 Tryz.underlying24 rfl (by kernel_rfl)
  have hu := Tryz.underlying39
  have hl3 : (loadVar 39 ⟨g3, 0, none⟩).run Tryz.prog V = .ok (.int .i64 e) V := by go_simp
  simp [results, Tryz.f26, h2', h3', asAddr, hl, hl3]
/-- The function is left: its two results, the block of the rounds' deferred calls shut. -/
theorem parse_end {w V : World} {text : List UInt8} {D : Nat} {n e : Int} {v : Value} {cls : List (List Int)} {tmps : Array Value} (h2 : tmps.getD 2 undef = .pointer (some ⟨w.heap.size, 0, none⟩)) (h3 : tmps.getD 3 undef = .pointer (some ⟨w.heap.size + 1, 0, none⟩))
    (hD : w.heap.size + 5 ≤ D) (hK : V.heap[D]? = some (.deferred (some []))) (b2 : V.heap[w.heap.size]? = some (.cells #[.int .i64 n, v] 24 (0, 0))) (b3 : V.heap[w.heap.size + 1]? = some (.cells #[.int .i64 e] 39 (0, 0)))
    (hb : Below w.heap.size w V) (hp : parseC text = (n, cls, e)) (hr : Kd.N kLs 25 (V.putObj D (.deferred none)) w.heap.size (fun k => w.heap.size ≤ k) v cls) :
    LeavesInM Fence.wide 3 Tryz.prog Tryz.f26 tmps (ParsePost w (parseC text)) [{ target := .collected D, args := #[] }] .returning V := by
  refine ⟨by simp, .inl ⟨_, _, rfl, run_takeDeferred hK, ?_⟩⟩
  refine ⟨.tuple #[.agg #[.int .i64 n, v], .int .i64 e], parse_res _ _ _ n e v tmps h2 h3 ((World.putObj_heap_other (by omega)).trans b2) ((World.putObj_heap_other (by omega)).trans b3), ?_⟩
  rw [hp]
  exact ⟨v, rfl, hr, hb.trans (belowK_b (w := w) (Nat.le_refl _) _ D _ _ (by omega) hK rfl rfl)⟩
set_option maxHeartbeats 16000000 in
set_option maxRecDepth 100000 in
theorem Parse_in (text : List UInt8) (hs : text.length < 4294967281) (w : World) (hT : Tabs w) :
    CallsIn Fence.wide 3 Tryz.prog 26 #[.string (toB text)] w (ParsePost w (parseC text)) := by
  have hu24 := Tryz.underlying24
  have HT := Aside0.mk hT
  have HS := Aside0.mk hs
  clear hT hs
  refine callsIn_of_wp_marks Tryz.func26 rfl trivial ?_ rfl
  simp only [Tryz.ntmps26, List.size_toArray, List.length_cons, List.length_nil, Nat.reduceAdd, Nat.reduceSub, Array.replicate_succ, Array.replicate_zero, List.push_toArray, List.append_toArray, List.nil_append, List.cons_append]
  gi_wp2_with (refine ⟨trivial, ?_⟩; gi_at_call 61; refine (lines_in _ _).mono ?_; rintro e w' ⟨rfl, rfl⟩)
  obtain ⟨W5, hW5⟩ : ∃ W5, (((((w.alloc (.cells #[.int .i64 0, .slice none 0 0] 24)).alloc (.cells #[.int .i64 0] 39)).alloc (.cells #[.int .i64 0, .slice none 0 0] 24)).alloc (.cells #[.bool true] 4)).alloc (.cells #[.string (toB text)] 9)) = W5 := ⟨_, rfl⟩
  have hsz : W5.heap.size = w.heap.size + 5 := by rw [← hW5]; simp
  have hB5 : Below w.heap.size w W5 := by
    rw [← hW5]
    exact (((((Below.refl _ w).alloc (Nat.le_refl _) _).alloc (by simp) _).alloc (by simp <;> omega) _).alloc (by simp <;> omega) _).alloc (by simp <;> omega) _
  have hS5 : PSt w W5 (W5.heap.size + 2) ⟨true, 0, []⟩ (.slice none 0 0) := by
    refine ⟨?_, ?_, ?_, ?_, Kd.R_nil _ _ _ _ _, hB5⟩ <;> rw [← hW5]
    · exact blk_alloc (blk_alloc (blk_alloc (blk_alloc (blk_new _ _) _) _) _) _
    · refine blk_alloc (blk_alloc (blk_alloc ?_ _) _) _
      have := blk_new (w.alloc (.cells #[.int .i64 0, .slice none 0 0] 24)) (.cells #[.int .i64 0] 39)
      simpa using this
    · refine blk_alloc (blk_alloc ?_ _) _
      have := blk_new ((w.alloc (.cells #[.int .i64 0, .slice none 0 0] 24)).alloc (.cells #[.int .i64 0] 39)) (.cells #[.int .i64 0, .slice none 0 0] 24)
      simpa using this
    · refine blk_alloc ?_ _
      have := blk_new (((w.alloc (.cells #[.int .i64 0, .slice none 0 0] 24)).alloc (.cells #[.int .i64 0] 39)).alloc (.cells #[.int .i64 0, .slice none 0 0] 24)) (.cells #[.bool true] 4)
      simpa using this
  have hBs5 : W5.heap[w.heap.size + 1 + 1 + 1 + 1]? = some (.cells #[.string (toB text)] 9 (0, 0)) := by
    rw [← hW5]
    have := blk_new ((((w.alloc (.cells #[.int .i64 0, .slice none 0 0] 24)).alloc (.cells #[.int .i64 0] 39)).alloc (.cells #[.int .i64 0, .slice none 0 0] 24)).alloc (.cells #[.bool true] 4)) (.cells #[.string (toB text)] 9)
    simpa using this
  rw [hW5]
  clear hW5
  have HST := Aside0.mk (lines1_stops (w.heap.size + 1 + 1 + 1 + 1) w.heap.size text HS.out W5 (HT.out.same hB5) HT.out.size (by omega) hBs5)
  have HSZ := Aside0.mk hsz
  obtain ⟨B, hB⟩ : ∃ B, B = W5.heap.size + 2 := ⟨_, rfl⟩
  rw [← hB] at hS5
  have HBB := Aside0.mk hB
  have HBW := Aside0.mk (show w.heap.size + 5 ≤ B by omega)
  clear hsz hBs5 hB
  refine rangeN rfl (by decide) (gf := 82) (lb := #[.pointer (some ⟨w.heap.size + 1 + 1 + 1 + 1, 0, none⟩)]) rfl trivial (enters_of Tryz.func82 (by kernel_rfl) rfl) HST.out (Below.refl _ _)
    (fun h k => ⟨h.1.trans k.1, k.2.trans h.2⟩)
    (fun W l o o' hl h _ => ⟨(Below.refl _ W).grown (grownBy_putObj' W l o') (by have := HSZ.out; have := blk_lt h; omega) (fun k e => by cases e; have := HSZ.out; omega), World.putObj_heap_other (by have := HSZ.out; omega)⟩)
    (fun A B hz hq k _ h2 => hq.2 k (by omega) (by have := HSZ.out; omega)) (fun _ => rfl)
    (fun k W => LS w text B k W)
    (fun c _ W => c = .ret ∧ LX w text W)
    ?iq ?ixq ?bi ?bix ⟨_, _, rfl, hS5, Nat.zero_le _, by simp⟩
    (fun k a' W => LS w text B k W ∧ a' = { tmps := #[.string (toB text), undef, .pointer (some ⟨w.heap.size, 0, none⟩), .pointer (some ⟨w.heap.size + 1, 0, none⟩), .pointer (some ⟨w.heap.size + 1 + 1, 0, none⟩), .pointer (some ⟨w.heap.size + 1 + 1 + 1, 0, none⟩), .string (toB ((linesOf text).getD k [])), undef, undef, undef, undef, undef, undef, .agg #[.int .i64 0, .slice none 0 0], .string (toB text), .func (.func 82) #[] #[.pointer (some ⟨w.heap.size + 1 + 1 + 1 + 1, 0, none⟩)], .string (toB ((linesOf text).getD k [])), undef, undef, undef, undef, undef, undef, undef, undef, undef, undef, undef, undef, undef, undef, undef, undef, undef, undef, undef, undef, undef, undef, undef, undef, undef, undef, undef, undef, undef, undef, undef, undef, undef, undef, undef, undef, undef, undef, undef, undef, undef, undef, undef, undef, undef, undef, undef, undef, undef, undef, undef], defers := [] })
    ?bax ?assign ?body ?done ?stop
  case iq => exact fun k A C hz hq hs => hs.turn HBW.out (fun j hj ho => hq.2 j hj (by have := HBW.out; rcases ho with ho | ho <;> omega)) hq.1
  case ixq => exact fun c k A C hz hq hs => ⟨hs.1, hs.2.turn (fun j hj ho => hq.2 j hj (by omega)) hq.1⟩
  case bi => exact fun k A C row hs hg hr => hs.turn HBW.out (fun j hj ho => hg.block j hj (fun e => by
      obtain ⟨h1, o, ho1, ho2⟩ := hr j e.symm
      rcases ho with ho | ⟨_, q, cells, ho⟩
      · have := HSZ.out; omega
      · rw [ho1] at ho; injection ho with ho; rw [ho] at ho2; cases ho2)) ((Below.refl _ A).grown hg (by obtain ⟨s, v, _, h2, _⟩ := hs; exact h2.below.size) (fun k e => by have := (hr k e).1; have := HSZ.out; omega))
  case bix => exact fun c k A C row hs hg hr => ⟨hs.1, hs.2.turn (fun j hj ho => hg.block j hj (fun e => by have := (hr j e.symm).1; have := HSZ.out; omega)) ((Below.refl _ A).grown hg hs.2.2.2.2.size (fun k e => by have := (hr k e).1; have := HSZ.out; omega))⟩
  case bax => exact fun a' k A C row hs hg hr => ⟨hs.1.turn HBW.out (fun j hj ho => hg.block j hj (fun e => by
      obtain ⟨h1, o, ho1, ho2⟩ := hr j e.symm
      rcases ho with ho | ⟨_, q, cells, ho⟩
      · have := HSZ.out; omega
      · rw [ho1] at ho; injection ho with ho; rw [ho] at ho2; cases ho2)) ((Below.refl _ A).grown hg (by obtain ⟨s, v, _, h2, _⟩ := hs.1; exact h2.below.size) (fun k e => by have := (hr k e).1; have := HSZ.out; omega)), hs.2⟩
  case assign =>
    intro l k W K hi hk hz hK
    clear HST
    generalize (linesOf text).getD k [] = line at hK ⊢
    gi_wp2
    exact hK _ _ ⟨hi, rfl⟩ (Keep2.refl _ _) ⟨Below.refl _ _, rfl⟩
  case body =>
    rintro l k a' W ⟨⟨s, v, hrun, hS, hlen, hcl⟩, rfl⟩ hk hz
    have hdrop : (linesOf text).drop k = (linesOf text).getD k [] :: (linesOf text).drop (k + 1) := by
      rw [List.drop_eq_getElem_cons hk, List.getD_eq_getElem?_getD, List.getElem?_eq_getElem hk]
      rfl
    have hll : ((linesOf text).getD k []).length ≤ text.length := by
      rw [List.getD_eq_getElem?_getD, List.getElem?_eq_getElem hk]
      exact linesOf_line text _ (List.getElem_mem hk)
    rw [hdrop] at hrun
    clear HST hdrop
    generalize (linesOf text).getD k [] = line at hrun hll ⊢
    have hTW := HT.out.same hS.below
    have HSP := Aside0.mk (split_at line hS hTW (by have := HS.out; omega))
    have HTW := Aside0.mk hTW
    have HSW := Aside0.mk hS
    have HRUN := Aside0.mk hrun
    have HLL := Aside0.mk hll
    have HLEN := Aside0.mk hlen
    have HCL := Aside0.mk hcl
    have HK := Aside0.mk (And.intro hk hz)
    have b5 : W.cell? ⟨w.heap.size + 1 + 1 + 1, 0, none⟩ = some (.bool s.first) := (blk_cell hS.b5 0).trans rfl
    obtain ⟨nw, hnw⟩ : ∃ n, n = (words line).length := ⟨_, rfl⟩
    rw [← hnw] at HSP
    have HNW := Aside0.mk hnw
    clear hTW hS hrun hll hlen hcl hk hz hnw hS5 hB5
    obtain ⟨gw, hgw⟩ : ∃ g, g = W.heap.size := ⟨_, rfl⟩
    have HGW := Aside0.mk hgw
    by_cases hf : s.first = true
    · rw [hf] at b5
      by_cases h4 : nw = 4
      · subst h4
        have H4 := Aside0.mk (And.intro hf True.intro)
        clear hf
        gi_wp2_with (first
          | (refine ⟨trivial, ?_⟩; gi_at_call 62; refine (CallsIn.inRound l (callsIn_wide.2 HSP.out)).mono ?_; rintro e w1 ⟨rfl, ⟨d5, d20, d21, d3, d41⟩, ⟨f20, f21, f3⟩, HS1, HW1, HB1⟩; rw [H4.out.1] at d5; have dw := word_cell HW1.out 2 (by have := HNW.out; omega))
          | (refine ⟨trivial, ?_⟩; gi_at_call 63; refine (CallsIn.inRound l (callsIn_wide.2 (atoi_at (wordAt line 2) HS1.out (HTW.out.same HB1.out) (by have := wordAt_size line 2; have := HLL.out; have := HS.out; omega)))).mono ?_; rintro e w2 ⟨er, rfl, ⟨e40, e50⟩, ⟨g40, g50⟩, HS2, HB2⟩))
        have hz := HK.out.2
        have hsz := HSZ.out
        have hb12 : Below W.heap.size W w2 := HB1.out.trans (HB2.out.mono HB1.out.size)
        refine ⟨(Keep2.below hb12 hz).trans ((Keep2.setCell _ _ _ (by simp <;> omega)).trans (Keep2.setCell _ _ _ (by simp <;> omega))),
          ⟨((hb12.mono HSW.out.below.size).setCell (p := ⟨w.heap.size + 1 + 1, 0, none⟩) (by simp <;> omega) _).setCell (p := ⟨w.heap.size + 1 + 1 + 1, 0, none⟩) (by simp <;> omega) _,
           (Below.heap_setCell _ _ _ _ (by simp)).trans ((Below.heap_setCell _ _ _ _ (by simp <;> omega)).trans (hb12.block _ (by omega)))⟩, ?_⟩
        refine ⟨⟨false, atoiV (wordAt line 2).data.toList, s.cls⟩, v, ?_, HS2.out.put HBW.out _, by have := HLEN.out; show s.cls.length ≤ k + 1; omega, HCL.out⟩
        rw [HRUN.out]
        simp only [PP.run, PP.step]
        rw [if_pos H4.out.1, if_pos (by have := HNW.out; omega)]
        rfl
      · have h4' : ((nw : Int) != 4) = true := bne_iff_ne.mpr (by omega)
        have H4 := Aside0.mk (And.intro hf h4)
        clear hf h4
        gi_wp2_with (refine ⟨trivial, ?_⟩; gi_at_call 62; refine (CallsIn.inRound l (callsIn_wide.2 HSP.out)).mono ?_; rintro e w1 ⟨rfl, ⟨d5, d20, d21, d3, d41⟩, ⟨f20, f21, f3⟩, HS1, HW1, HB1⟩; rw [H4.out.1] at d5)
        have hz := HK.out.2
        have hsz := HSZ.out
        refine ⟨((Keep2.below HB1.out hz).trans (Keep2.setCell _ _ _ (by simp <;> omega))).trans ((Keep2.setCell _ _ _ (by simp <;> omega)).trans (Keep2.setCell _ _ _ (by simp <;> omega))), rfl, ?_⟩
        refine ⟨?_, (blk_far (blk_set (blk_set HS1.out.b2 0 _) 1 _) (by simp) _).trans rfl, (blk_set (blk_far (blk_far HS1.out.b3 (by simp) _) (by simp) _) 0 _).trans rfl, ((HS1.out.below.setCell (p := ⟨w.heap.size, 0, none⟩) (Nat.le_refl _) _).setCell (p := ⟨w.heap.size, 1, none⟩) (Nat.le_refl _) _).setCell (p := ⟨w.heap.size + 1, 0, none⟩) (by simp) _⟩
        rw [HRUN.out]
        simp only [PP.run, PP.step]
        rw [if_pos H4.out.1, if_neg (by have := HNW.out; have := H4.out.2; omega)]
        rfl
    · have hff : s.first = false := by simpa using hf
      rw [hff] at b5
      have HF := Aside0.mk hff
      clear hf hff
      obtain ⟨n1, hn1⟩ : ∃ n1 : Nat, nw = n1 + 1 := ⟨nw - 1, by have := words_pos line; have := HNW.out; omega⟩
      subst hn1
      have hn1 : n1 ≤ 4294967296 := by
        have h1 := HNW.out
        have h2 := words_len line
        have h3 := Plain.countB_le (toB line)
        have h4 : (toB line).size = line.length := rfl
        have := HLL.out; have := HS.out
        omega
      have k1 : IntKind.i64.wrap (n1 : Int) = (n1 : Int) := IntWalk.i64_in _ (by omega)
      have k1' : wrap64 (n1 : Int) = (n1 : Int) := by unfold wrap64; omega
      have k2 : ((n1 : Int) ≤ (n1 : Int) + 1) = True := eq_true (by omega)
      have k3 : ((0 : Int) ≤ (n1 : Int)) = True := eq_true (by omega)
      have HN1 := Aside0.mk hn1
      clear hn1
      gi_wp2_with (refine ⟨trivial, ?_⟩; gi_at_call 62; refine (CallsIn.inRound l (callsIn_wide.2 HSP.out)).mono ?_; rintro e w1 ⟨rfl, ⟨d5, d20, d21, d3, d41⟩, ⟨f20, f21, f3⟩, HS1, HW1, HB1⟩; rw [HF.out] at d5)
      gi_loopw [8, 38] (fun v8 v38 wr => ∃ (x : Nat) (u8 : Value), u8 = v8 ∧ v38 = .int .i64 x ∧ Aside0 (x ≤ n1 ∧ kI.R 3 wr w1.heap.size (fun _ => True) u8 ((lineLits line).take x) ∧ Below w1.heap.size w1 wr)) (fun _ v38 _ => n1 - (intOf v38).toNat)
      case atStart => exact ⟨0, _, rfl, rfl, ⟨Nat.zero_le _, by simpa using Kd.R_nil _ _ _ _ _, Below.refl _ _⟩⟩
      case round =>
        obtain ⟨x, u8, rfl, rfl, HX⟩ := hrel
        by_cases c1 : x < n1
        · have h1 : decide (x < n1) = true := decide_eq_true c1
          have h1' : decide ((x : Int) < (n1 : Int)) = true := decide_eq_true (by omega)
          have p1 : (0 ≤ (x : Int)) = True := eq_true (by omega)
          have q1 : ((x : Int) < (n1 : Int)) = True := eq_true (by omega)
          have hn := HN1.out
          have kx : IntKind.i64.wrap ((x : Int) + 1) = (x : Int) + 1 := IntWalk.i64_in _ (by omega)
          have kx' : wrap64 ((x : Int) + 1) = (x : Int) + 1 := by unfold wrap64; omega
          have dw : wr.cell? ⟨W.heap.size, x, none⟩ = some (.string (wordAt line x)) := word_cell (blk_below HW1.out HX.out.2.2) x (by have := HNW.out; omega)
          have hst := lineLits_step line x (by have := HNW.out; omega)
          have HTR := Aside0.mk ((HTW.out.same HB1.out).same HX.out.2.2)
          have HAT := Aside0.mk (atoi (wordAt line x) (by have := wordAt_size line x; have := HLL.out; have := HS.out; omega) wr HTR.out)
          obtain ⟨y, hy⟩ : ∃ y, y = atoiV (wordAt line x).data.toList := ⟨_, rfl⟩
          rw [← hy] at HAT hst
          have HST := Aside0.mk hst
          have HL8 : Aside0 ((((lineLits line).take x).length + 1) * 8 ≤ 140737488355328) := ⟨by rw [List.length_take]; omega⟩
          have C1 := Aside0.mk c1
          clear hst hy hn c1
          gi_wp2_with (first
            | (refine ⟨trivial, ?_⟩; gi_at_call 63; refine (CallsIn.inRound l (callsIn_wide.2 HAT.out)).mono ?_; rintro e w2 ⟨⟨er, rfl⟩, hb2⟩; have HB2 := Aside0.mk (below_step HX.out.2.2 hb2); have HR2 := Aside0.mk (Kd.R_below HX.out.2.1 hb2); clear hb2)
            | (gi_at_builtin; refine append_v (fun v1 w3 => kI.R 3 w3 w1.heap.size (fun _ => True) v1 ((lineLits line).take x ++ [y]) ∧ Below w1.heap.size w1 w3) rfl (.tmp 47) (.tmp 49) 25 rfl (Kd.R_append kI (w0 := w1) (W := w2) w1.heap.size rfl (.tmp 47) (.tmp 49) 25 3 (.int .i64 0) 8 rfl Tryz.underlying25 info3 rfl (by decide) (by omega) _ ((lineLits line).take x) y [.int .i64 y] (fun _ => True) (fun _ => False) rfl rfl rfl (fun _ hk => hk.elim) (fun _ _ => trivial) HR2.out HB2.out HB2.out.size HL8.out (fun v1 w3 ho hb _ _ => ⟨rfl, v1, rfl, ho, hb⟩)) ?_; rintro v9 w3 ⟨ho, hb⟩; have HR3 := Aside0.mk ho; have HB3 := Aside0.mk hb; clear ho hb))
          go_roundw
          case rel => exact ⟨x + 1, _, rfl, by simp, ⟨C1.out, by rw [HST.out]; exact HR3.out, HB3.out⟩⟩
          case measure =>
            have := C1.out
            simp [intOf]; omega
        · have h1 : decide (x < n1) = false := decide_eq_false c1
          have h1' : decide ((x : Int) < (n1 : Int)) = false := decide_eq_false (by omega)
          have HRL : Aside0 (kI.R 3 wr w1.heap.size (fun _ => True) u8 (lineLits line)) := ⟨by
            have h := HX.out.2.1
            rwa [List.take_of_length_le (by rw [lineLits_len]; have := HNW.out; omega)] at h⟩
          have HBX := Aside0.mk HX.out.2.2
          have HBL := Aside0.mk (show B ≤ w1.heap.size by have := HK.out.2; have := HB1.out.size; have := HBB.out; omega)
          have HS3 := Aside0.mk (HS1.out.later HBX.out)
          have d41' : wr.cell? ⟨w.heap.size + 1 + 1, 1, none⟩ = some v := (blk_cell HS3.out.b4 1).trans rfl
          have HL9 : Aside0 ((s.cls.length + 1) * 24 ≤ 140737488355328) := ⟨by have := HLEN.out; have := HK.out.1; have := linesOf_len text; have := HS.out; omega⟩
          clear c1 HX
          obtain ⟨A8, c8, e8⟩ := Kd.R_slice HRL.out
          subst e8
          gi_wp2_with (gi_at_builtin; refine append_v (fun v1 w3 => kLs.R 25 w3 B (fun _ => True) v1 (s.cls ++ [lineLits line]) ∧ Below B wr w3) rfl (.tmp 53) (.tmp 55) 22 rfl (Kd.R_append kLs (w0 := wr) (W := wr) B rfl (.tmp 53) (.tmp 55) 22 25 (.slice none 0 0) 24 rfl Tryz.underlying22 info25' rfl (by decide) (by omega) v s.cls (lineLits line) [.slice A8 (lineLits line).length c8] (fun _ => True) (fun k => w1.heap.size ≤ k) rfl rfl ⟨_, rfl, Kd.R_lower (Kd.R_mono (Kd.R_bound HRL.out) (fun k hk => hk.2.1)) HBL.out⟩ (fun k hk => ⟨trivial, fun e => by have := Kd.R_lt HS1.out.row k e.symm; omega⟩) (fun _ _ => trivial) HS3.out.row (Below.refl _ _) (Nat.le_trans HBL.out HBX.out.size) HL9.out (fun v1 w3 ho hb _ _ => ⟨rfl, v1, rfl, ho, hb⟩)) ?_; rintro v9 w3 ⟨ho, hb⟩; obtain ⟨A9, c9, e9⟩ := Kd.R_slice ho; rw [List.length_append, List.length_singleton] at e9; subst e9; have HR3 := Aside0.mk ho; have HB3 := Aside0.mk hb; have HK4 := Aside0.mk ((hb.block _ (by have := HBW.out; omega)).trans HS3.out.b4); have f4 : w3.frozen? ⟨w.heap.size + 1 + 1, 1, none⟩ = false := blk_frozen HK4.out 1; have b4 : w3.cell? ⟨w.heap.size + 1 + 1, 1, none⟩ = some v := (blk_cell HK4.out 1).trans rfl; clear ho hb)
          have hz := HK.out.2
          have hsz := HSZ.out
          have hbb := HBB.out
          have hbw : Below W.heap.size W wr := HB1.out.trans (HBX.out.mono HB1.out.size)
          have hb13 : Below B W w3 := (hbw.mono (by omega)).trans HB3.out
          refine ⟨(Keep2.below hb13 (by omega)).trans (Keep2.setCell _ _ _ (by simp <;> omega)),
            ⟨(hb13.mono (by omega)).setCell (p := ⟨w.heap.size + 1 + 1, 1, none⟩) (by simp; omega) _, (Below.heap_setCell _ _ _ _ (by simp; try omega)).trans (hb13.block _ (by omega))⟩, ?_⟩
          refine ⟨⟨false, s.n, s.cls ++ [lineLits line]⟩, _, ?_, HSW.out.add HBW.out hb13 HF.out HR3.out, by have := HLEN.out; simp; omega, ?_⟩
          · rw [HRUN.out]
            simp only [PP.run, PP.step]
            rw [if_neg (by rw [HF.out]; simp)]
            rfl
          · intro c hc
            rcases List.mem_append.1 hc with hc | hc
            · exact HCL.out c hc
            · rw [List.mem_singleton.1 hc, lineLits_len, words_len]
              have h3 := Plain.countB_le (toB line)
              have h4 : (toB line).size = line.length := rfl
              have := HLL.out
              omega
  case done =>
    rintro D W hD ⟨s, v, hrun, hS, hlen, hcl⟩ hK
    have hb2 := hS.b2
    have hb3 := hS.b3
    obtain ⟨A, c, ev⟩ := Kd.R_slice hS.row
    subst ev
    have hR := Kd.R_reads' hS.row
    have HFC := Aside0.mk (format_at hS (HT.out.same hS.below) ⟨by have := linesOf_len text; have := HS.out; omega, fun c hc => by have := hcl c hc; have := HS.out; omega⟩)
    have HR := Aside0.mk hR
    have HSW := Aside0.mk hS
    have HRUN : Aside0 (PP.run ⟨true, 0, []⟩ (linesOf text) = some s) := ⟨by rw [hrun, List.drop_length]; rfl⟩
    have HK := Aside0.mk hK
    have HD := Aside0.mk hD
    have d40 : W.cell? ⟨w.heap.size + 1 + 1, 0, none⟩ = some (.int .i64 s.n) := (blk_cell hS.b4 0).trans rfl
    have d41 : W.cell? ⟨w.heap.size + 1 + 1, 1, none⟩ = some (.slice A s.cls.length c) := (blk_cell hS.b4 1).trans rfl
    have d20 : W.cell? ⟨w.heap.size, 0, none⟩ = some (.int .i64 0) := (blk_cell hb2 0).trans rfl
    have d21 : W.cell? ⟨w.heap.size, 1, none⟩ = some (.slice none 0 0) := (blk_cell hb2 1).trans rfl
    have d30 : W.cell? ⟨w.heap.size + 1, 0, none⟩ = some (.int .i64 0) := (blk_cell hb3 0).trans rfl
    have f20 : W.frozen? ⟨w.heap.size, 0, none⟩ = false := blk_frozen hb2 0
    have f21 : W.frozen? ⟨w.heap.size, 1, none⟩ = false := blk_frozen hb2 1
    have f30 : W.frozen? ⟨w.heap.size + 1, 0, none⟩ = false := blk_frozen hb3 0
    clear HST hR hS hrun hK hD hlen hcl hb2 hb3 hS5 hB5
    by_cases h0 : text = []
    · have he : (toB text).toList.isEmpty = true := by rw [h0]; simp [toB, ByteArray.toList_eq]
      have H0 := Aside0.mk h0
      clear h0
      gi_wp2
      refine ⟨trivial, ?_⟩
      gi_wp2
      have hlt : w.heap.size + 5 ≤ D := by have := HD.out; have := HSZ.out; omega
      refine parse_end (n := 0) (e := 3) (v := .slice none 0 0) (cls := []) rfl rfl hlt ?_ ?_ ?_ ?_ ?_ (Kd.N_nil _ _ _ _ _)
      · rw [Below.heap_setCell _ _ _ _ (by simp; omega), Below.heap_setCell _ _ _ _ (by simp; omega), Below.heap_setCell _ _ _ _ (by simp; omega)]
        exact HK.out
      · exact (blk_far (blk_set (blk_set HSW.out.b2 0 _) 1 _) (by simp) _).trans rfl
      · exact (blk_set (blk_far (blk_far HSW.out.b3 (by simp) _) (by simp) _) 0 _).trans rfl
      · exact ((HSW.out.below.setCell (p := ⟨w.heap.size, 0, none⟩) (Nat.le_refl _) _).setCell (p := ⟨w.heap.size, 1, none⟩) (Nat.le_refl _) _).setCell (p := ⟨w.heap.size + 1, 0, none⟩) (by simp) _
      · unfold parseC
        rw [HRUN.out]
        exact if_pos (.inl H0.out)
    · have he : (toB text).toList.isEmpty = false := by
        cases text with
        | nil => exact absurd rfl h0
        | cons b t => rw [show (toB (b :: t)).toList = b :: t from by simp [toB, ByteArray.toList_eq]]; rfl
      have H0 := Aside0.mk h0
      clear h0
      clear d20 d21 d30 f20 f21 f30
      by_cases hq : formatC s.n s.cls = text
      · have hqq : ((toB (formatC s.n s.cls)).toList == (toB text).toList) = true := by rw [hq]; simp
        have HQ := Aside0.mk hq
        clear hq
        gi_wp2_with (refine ⟨trivial, ?_⟩; gi_at_call 28; refine (callsIn_wide.2 HFC.out).mono ?_; rintro e w1 ⟨rfl, ⟨e20, e21, e30, e40, e41⟩, ⟨g20, g21, g30⟩, HS1, HB1⟩)
        have hlt : w.heap.size + 5 ≤ D := by have := HD.out; have := HSZ.out; omega
        have hDW : D < W.heap.size := (Array.getElem?_eq_some_iff.1 HK.out).1
        refine parse_end (n := s.n) (e := 0) (v := .slice A s.cls.length c) (cls := s.cls) rfl rfl hlt ?_ ?_ ?_ ?_ ?_ ?_
        · rw [Below.heap_setCell _ _ _ _ (by simp; omega), Below.heap_setCell _ _ _ _ (by simp; omega), Below.heap_setCell _ _ _ _ (by simp; omega)]
          exact (HB1.out.block D hDW).trans HK.out
        · exact (blk_far (blk_set (blk_set HS1.out.b2 0 _) 1 _) (by simp) _).trans rfl
        · exact (blk_set (blk_far (blk_far HS1.out.b3 (by simp) _) (by simp) _) 0 _).trans rfl
        · exact ((HS1.out.below.setCell (p := ⟨w.heap.size, 0, none⟩) (Nat.le_refl _) _).setCell (p := ⟨w.heap.size, 1, none⟩) (Nat.le_refl _) _).setCell (p := ⟨w.heap.size + 1, 0, none⟩) (by simp) _
        · unfold parseC
          rw [HRUN.out]
          exact if_neg (by rintro (h | h); exact H0.out h; exact h HQ.out)
        · have hbw := HBW.out
          refine Kd.N_lower (Kd.R_N (Kd.R_mono (Kd.R_step (Kd.R_bound HS1.out.row) (fun k ho hl => ?_)) (fun k ho => by have := ho.2.1; omega))) (by omega)
          obtain ⟨_, hBk, _, q, _, cells, hcells⟩ := ho
          rw [World.putObj_heap_other (by
            rintro rfl
            rw [(HB1.out.block _ hDW).trans HK.out] at hcells
            cases hcells), Below.heap_setCell _ _ _ _ (by simp; omega), Below.heap_setCell _ _ _ _ (by simp; omega), Below.heap_setCell _ _ _ _ (by simp; omega)]
      · have hqq : ((toB (formatC s.n s.cls)).toList == (toB text).toList) = false := by rw [toB_list, toB_list]; exact beq_eq_false_iff_ne.mpr hq
        have HQ := Aside0.mk hq
        clear hq
        gi_wp2_with (refine ⟨trivial, ?_⟩; gi_at_call 28; refine (callsIn_wide.2 HFC.out).mono ?_; rintro e w1 ⟨rfl, ⟨e20, e21, e30, e40, e41⟩, ⟨g20, g21, g30⟩, HS1, HB1⟩)
        have hlt : w.heap.size + 5 ≤ D := by have := HD.out; have := HSZ.out; omega
        have hDW : D < W.heap.size := (Array.getElem?_eq_some_iff.1 HK.out).1
        refine parse_end (n := 0) (e := 3) (v := .slice none 0 0) (cls := []) rfl rfl hlt ?_ ?_ ?_ ?_ ?_ (Kd.N_nil _ _ _ _ _)
        · rw [Below.heap_setCell _ _ _ _ (by simp; omega), Below.heap_setCell _ _ _ _ (by simp; omega), Below.heap_setCell _ _ _ _ (by simp; omega)]
          exact (HB1.out.block D hDW).trans HK.out
        · exact (blk_far (blk_set (blk_set HS1.out.b2 0 _) 1 _) (by simp) _).trans rfl
        · exact (blk_set (blk_far (blk_far HS1.out.b3 (by simp) _) (by simp) _) 0 _).trans rfl
        · exact ((HS1.out.below.setCell (p := ⟨w.heap.size, 0, none⟩) (Nat.le_refl _) _).setCell (p := ⟨w.heap.size, 1, none⟩) (Nat.le_refl _) _).setCell (p := ⟨w.heap.size + 1, 0, none⟩) (by simp) _
        · unfold parseC
          rw [HRUN.out]
          exact if_pos (.inr HQ.out)
  case stop =>
    rintro D c k W hD hk ⟨rfl, hx⟩ hK
    clear HST hS5 hB5
    have HX := Aside0.mk hx
    have HK := Aside0.mk hK
    have HD := Aside0.mk hD
    clear hx hK hD
    gi_wp2
    have hlt : w.heap.size + 5 ≤ D := by have := HD.out; have := HSZ.out; omega
    refine parse_end (n := 0) (e := 3) (v := .slice none 0 0) (cls := []) rfl rfl hlt HK.out HX.out.2.1 HX.out.2.2.1 HX.out.2.2.2 ?_ (Kd.N_nil _ _ _ _ _)
    unfold parseC
    rw [HX.out.1]
theorem Parse_calls (text : List UInt8) (hs : text.length < 4294967281) (w : World) (hT : Tabs w) : Calls Tryz.prog 26 #[.string (toB text)] w (ParsePost w (parseC text)) :=
  callsIn_wide.1 (Parse_in text hs w hT)
end Go.Proofs.YteaohgebocbehaaGreatDoor.Hand
end
section
/- The calls that awake makes, at its examples. -/
set_option linter.unusedVariables false
set_option linter.unusedSimpArgs false
namespace Go.Proofs.YteaohgebocbehaaGreatDoor.Hand
open Go.RowKit Go.Lib Go.Shelf Go.Proofs.YteaohgebocbehaaGreatDoorW Go.Proofs.YteaohgebocbehaaGreatDoorW.PrintWords Go.Proofs.YteaohgebocbehaaGreatDoorW.PrintLast Go.Proofs.YteaohgebocbehaaGreatDoorW.PrintMore Go.Proofs.YteaohgebocbehaaGreatDoor.Plain Go.Proofs.YteaohgebocbehaaGreatDoor.XA
attribute [local go_sem] max2_int min2_int max_two min_two max_three min_three max_four min_four
theorem gate_row (W : World) : k62.C (W.alloc (.cells #[.int .i64 2, .int .i64 5] 62)) (some ⟨W.heap.size, 0, none⟩) 1 [⟨2, 5⟩] := by
  refine ⟨rfl, by decide, fun _ => ⟨_, rfl, fun j x hj => ?_⟩⟩
  cases j with
  | succ j => simp at hj
  | zero =>
    obtain rfl : (⟨2, 5⟩ : S62) = x := by simpa using hj
    refine ⟨_, rfl, k62_mk _ _, fun i u hu => ?_⟩
    have hb : (W.alloc (.cells #[.int .i64 2, .int .i64 5] 62)).heap[W.heap.size]? = some (.cells #[.int .i64 2, .int .i64 5] 62 (0, 0)) := blk_new W _
    rw [show (⟨W.heap.size, 0, none⟩ : Addr).add (0 * k62.sz + i) = ⟨W.heap.size, i, none⟩ by simp [Addr.add] <;> omega]
    refine (blk_cell hb i).trans ?_
    match i, hu with
    | 0, hu => exact hu
    | 1, hu => exact hu
    | i + 2, hu => simp at hu
theorem fcl_fine : Fine fcl := ⟨by decide, by decide⟩
theorem tr_calls (W : World) (A : Option Addr) (c : Nat) (Al : Option Addr) (cl : Nat) (hc : 1 ≤ c) (hr : k62.C W A 1 [⟨2, 5⟩]) (hl : kI.C W Al 1 [6]) :
    Calls Tryz.prog 21 #[.agg #[.int .i64 2, .slice A 1 c], .slice Al 1 cl] W fun e w' => ∃ A1 c1, e = .returned (.tuple #[.agg #[.int .i64 4, .slice A1 fcl.length c1], .int .i64 0]) ∧ fcl.length ≤ c1 ∧ kL.C w' A1 fcl.length fcl ∧ Below W.heap.size W w' := by
  have h := Trans_calls 2 A c [⟨2, 5⟩] Al cl [6] W hr hc (by decide) hl (by decide)
  rw [a_trans] at h
  refine h.mono ?_
  rintro e w' ⟨v, he, hN, hb⟩
  obtain ⟨A1, c1, rfl⟩ := Kd.N_slice hN
  exact ⟨A1, c1, he, (Kd.N_reads' hN).2.1, (Kd.N_reads' hN).2.2, hb⟩
theorem pr_uniq {r : List Int} (h1 : r.Perm [2, -3, -1, 4]) (h2 : r.Pairwise fun x y => ¬ y.natAbs < x.natAbs) : r = [-1, 2, -3, 4] := by
  have hp : r.Perm [-1, 2, -3, 4] := h1.trans (by decide)
  refine List.Perm.eq_of_pairwise (le := fun x y => ¬ y.natAbs < x.natAbs) (fun a b ha hb h3 h4 => ?_) h2 (by decide) hp
  have ha' := hp.mem_iff.1 ha
  simp only [List.mem_cons, List.not_mem_nil, or_false] at ha' hb
  rcases ha' with rfl | rfl | rfl | rfl <;> rcases hb with rfl | rfl | rfl | rfl <;> first | rfl | (exfalso; revert h3 h4; decide)
theorem pr_calls (W : World) (A : Option Addr) (c : Nat) (As : Option Addr) (cs : Nat) (hc : fcl.length ≤ c) (hr : kL.C W A fcl.length fcl) (hs : kI.C W As 2 [2, -3]) :
    Calls Tryz.prog 24 #[.agg #[.int .i64 4, .slice A fcl.length c], .slice As 2 cs] W fun e w' => ∃ A3 c3, e = .returned (.tuple #[.slice A3 4 c3, .bool true, .int .i64 0]) ∧ 4 ≤ c3 ∧ kI.C w' A3 4 [-1, 2, -3, 4] ∧ Below W.heap.size W w' := by
  refine (Propagate_good 4 A c fcl As cs [2, -3] W hr hc fcl_fine hs (by decide) a_valid a_start).mono ?_
  rintro e w' ⟨v, r, b, he, hR, hok, hb⟩
  unfold PropOk at hok
  rw [if_neg (by rw [a_prop.1]; simp), a_prop.2] at hok
  obtain ⟨hb1, hp, hs2⟩ := hok
  have hru := pr_uniq hp hs2
  subst hru hb1
  obtain ⟨A3, c3, rfl⟩ := Kd.R_slice hR
  exact ⟨A3, c3, he, (Kd.R_reads' hR).2.1, (Kd.R_reads' hR).2.2, hb⟩
theorem nm_calls (W : World) (A : Option Addr) (c : Nat) (hc : 3 ≤ c) (hr : kI.C W A 3 [3, -2, 3]) :
    Calls Tryz.prog 12 #[.slice A 3 c] W fun e w' => ∃ A3 c3, e = .returned (.tuple #[.slice A3 2 c3, .bool true]) ∧ 2 ≤ c3 ∧ kI.C w' A3 2 [-2, 3] ∧ Below W.heap.size W w' := by
  have h := Normal_calls A c [3, -2, 3] W hr hc (by decide)
  rw [a_norm] at h
  refine h.mono ?_
  rintro e w' ⟨v, he, hR, hb⟩
  obtain ⟨A3, c3, rfl⟩ := Kd.R_slice hR
  exact ⟨A3, c3, he, (Kd.R_reads' hR).2.1, (Kd.R_reads' hR).2.2, hb⟩
theorem ps_calls (W : World) (hT : Tabs W) :
    Calls Tryz.prog 26 #[.string { data := #[112, 32, 99, 110, 102, 32, 50, 32, 49, 10, 49, 32, 45, 50, 32, 48, 10] }] W fun e w' => ∃ A3 c3, e = .returned (.tuple #[.agg #[.int .i64 2, .slice A3 1 c3], .int .i64 0]) ∧ 1 ≤ c3 ∧ kL.C w' A3 1 [[1, -2]] ∧ Below W.heap.size W w' := by
  have h := Parse_calls ptx (by decide) W hT
  rw [a_parse] at h
  refine h.mono ?_
  rintro e w' ⟨v, he, hN, hb⟩
  obtain ⟨A3, c3, rfl⟩ := Kd.N_slice hN
  exact ⟨A3, c3, he, (Kd.N_reads' hN).2.1, (Kd.N_reads' hN).2.2, hb⟩
theorem fm_calls (W : World) (A : Option Addr) (c : Nat) (hc : 1 ≤ c) (hr : kL.C W A 1 [[1, -2]]) (hT : Tabs W) :
    Calls Tryz.prog 28 #[.agg #[.int .i64 2, .slice A 1 c]] W fun e w' => e = .returned (.string { data := #[112, 32, 99, 110, 102, 32, 50, 32, 49, 10, 49, 32, 45, 50, 32, 48, 10] }) ∧ Below W.heap.size W w' := by
  have h := Format_calls 2 A c [[1, -2]] W hr hc ⟨by decide, by decide⟩ hT
  rw [a_format] at h
  exact h
theorem vl_calls (W : World) (A : Option Addr) (c : Nat) (hc : fcl.length ≤ c) (hr : kL.C W A fcl.length fcl) :
    Calls Tryz.prog 15 #[.agg #[.int .i64 4, .slice A fcl.length c]] W fun e w' => e = .returned (.bool true) ∧ Below W.heap.size W w' := by
  have h := Valid_calls 4 A c fcl W hr hc fcl_fine
  rw [a_valid] at h
  exact h
theorem hd_calls (W : World) (A : Option Addr) (c : Nat) (Am : Option Addr) (cm : Nat) (hc : fcl.length ≤ c) (hr : kL.C W A fcl.length fcl) (hm : kI.C W Am 4 [-1, 2, -3, 4]) :
    Calls Tryz.prog 17 #[.agg #[.int .i64 4, .slice A fcl.length c], .slice Am 4 cm] W fun e w' => e = .returned (.bool true) ∧ Below W.heap.size W w' := by
  have h := Holds_calls 4 A c fcl Am cm [-1, 2, -3, 4] W hr hc fcl_fine hm (by decide)
  rw [a_holds] at h
  exact h
theorem row5 (W : World) (A1 A2 A3 A4 A5 : Option Addr) (c1 c2 c3 c4 c5 : Nat) (h1 : kI.C W A1 1 [-1]) (h2 : kI.C W A2 2 [2, -4]) (h3 : kI.C W A3 2 [-3, -4]) (h4 : kI.C W A4 3 [-2, 3, 4]) (h5 : kI.C W A5 1 [4]) (g1 : 1 ≤ c1) (g2 : 2 ≤ c2) (g3 : 2 ≤ c3) (g4 : 3 ≤ c4) (g5 : 1 ≤ c5) :
    kL.C (W.alloc (.cells #[.slice A1 1 c1, .slice A2 2 c2, .slice A3 2 c3, .slice A4 3 c4, .slice A5 1 c5] 25)) (some ⟨W.heap.size, 0, none⟩) 5 fcl := by
  have hb : (W.alloc (.cells #[.slice A1 1 c1, .slice A2 2 c2, .slice A3 2 c3, .slice A4 3 c4, .slice A5 1 c5] 25)).heap[W.heap.size]? = some (.cells #[.slice A1 1 c1, .slice A2 2 c2, .slice A3 2 c3, .slice A4 3 c4, .slice A5 1 c5] 25 (0, 0)) := blk_new W _
  have hB : Below W.heap.size W (W.alloc (.cells #[.slice A1 1 c1, .slice A2 2 c2, .slice A3 2 c3, .slice A4 3 c4, .slice A5 1 c5] 25)) := below_alloc (Below.refl _ _) _
  refine ⟨rfl, by decide, fun _ => ⟨_, rfl, fun j x hj => ?_⟩⟩
  have fin : ∀ (v : Value), (#[Value.slice A1 1 c1, .slice A2 2 c2, .slice A3 2 c3, .slice A4 3 c4, .slice A5 1 c5])[j]? = some v → ∀ i u, [v][i]? = some u → (W.alloc (.cells #[.slice A1 1 c1, .slice A2 2 c2, .slice A3 2 c3, .slice A4 3 c4, .slice A5 1 c5] 25)).cell? ((⟨W.heap.size, 0, none⟩ : Addr).add (j * kL.sz + i)) = some u := by
    intro v hv i u hu
    cases i with
    | succ i => simp at hu
    | zero =>
      obtain rfl : v = u := by simpa using hu
      have e : (⟨W.heap.size, 0, none⟩ : Addr).add (j * 1 + 0) = ⟨W.heap.size, j, none⟩ := by simp [Addr.add] <;> omega
      show (W.alloc _).cell? ((⟨W.heap.size, 0, none⟩ : Addr).add (j * 1 + 0)) = _
      rw [e]
      exact (blk_cell hb j).trans hv
  match j, hj with
  | 0, hj => cases (show [-1] = x by simpa [fcl] using hj); exact ⟨_, rfl, ⟨A1, c1, rfl, g1, Kd.C_below h1 hB⟩, fin _ rfl⟩
  | 1, hj => cases (show [2, -4] = x by simpa [fcl] using hj); exact ⟨_, rfl, ⟨A2, c2, rfl, g2, Kd.C_below h2 hB⟩, fin _ rfl⟩
  | 2, hj => cases (show [-3, -4] = x by simpa [fcl] using hj); exact ⟨_, rfl, ⟨A3, c3, rfl, g3, Kd.C_below h3 hB⟩, fin _ rfl⟩
  | 3, hj => cases (show [-2, 3, 4] = x by simpa [fcl] using hj); exact ⟨_, rfl, ⟨A4, c4, rfl, g4, Kd.C_below h4 hB⟩, fin _ rfl⟩
  | 4, hj => cases (show [4] = x by simpa [fcl] using hj); exact ⟨_, rfl, ⟨A5, c5, rfl, g5, Kd.C_below h5 hB⟩, fin _ rfl⟩
  | j + 5, hj => simp [fcl] at hj
theorem cl_calls (W : World) (A : Option Addr) (c : Nat) (A2 : Option Addr) (hc : fcl.length ≤ c) (hr : kL.C W A fcl.length fcl) (h2 : kL.C W A2 5 fcl) :
    Calls Tryz.prog 40 #[.slice A fcl.length c, .slice A2 5 5] W fun e w' => e = .returned (.bool true) ∧ Drawn0 W w' :=
  assessorref26_Clauses.calls 20 A c fcl A2 5 fcl true W hr hc h2 (Nat.le_refl _) (by decide +kernel)
theorem eq4_calls (W : World) (A : Option Addr) (c : Nat) (A2 : Option Addr) (c2 : Nat) (hc : 4 ≤ c) (hr : kI.C W A 4 [-1, 2, -3, 4]) (hc2 : 4 ≤ c2) (h2 : kI.C W A2 4 [-1, 2, -3, 4]) :
    Calls Tryz.prog 14 #[.slice A 4 c, .slice A2 4 c2] W fun e w' => e = .returned (.bool true) ∧ Drawn0 W w' :=
  slices_Equal_int_int.calls 20 A c [-1, 2, -3, 4] A2 c2 [-1, 2, -3, 4] true W hr hc h2 hc2 (by decide +kernel)
theorem eq2_calls (W : World) (A : Option Addr) (c : Nat) (A2 : Option Addr) (c2 : Nat) (hc : 2 ≤ c) (hr : kI.C W A 2 [-2, 3]) (hc2 : 2 ≤ c2) (h2 : kI.C W A2 2 [-2, 3]) :
    Calls Tryz.prog 14 #[.slice A 2 c, .slice A2 2 c2] W fun e w' => e = .returned (.bool true) ∧ Drawn0 W w' :=
  slices_Equal_int_int.calls 20 A c [-2, 3] A2 c2 [-2, 3] true W hr hc h2 hc2 (by decide +kernel)
end Go.Proofs.YteaohgebocbehaaGreatDoor.Hand
end
section
/- awake: the chapter's examples, walked. -/
set_option linter.unusedVariables false
set_option linter.unusedSimpArgs false
namespace Go.Proofs.YteaohgebocbehaaGreatDoor.Hand
open Go.RowKit Go.Lib Go.Shelf Go.Proofs.YteaohgebocbehaaGreatDoorW Go.Proofs.YteaohgebocbehaaGreatDoorW.PrintWords Go.Proofs.YteaohgebocbehaaGreatDoorW.PrintLast Go.Proofs.YteaohgebocbehaaGreatDoorW.PrintMore Go.Proofs.YteaohgebocbehaaGreatDoor.Plain Go.Proofs.YteaohgebocbehaaGreatDoor.XA
attribute [local go_sem] max2_int min2_int max_two min_two max_three min_three max_four min_four
theorem vl2_calls {nf : Nat} (hn : nf = fcl.length) (W : World) (A : Option Addr) (c : Nat) (hc : nf ≤ c) (hr : kL.C W A nf fcl) :
    Calls Tryz.prog 15 #[.agg #[.int .i64 4, .slice A nf c]] W fun e w' => e = .returned (.bool true) ∧ Below W.heap.size W w' := by subst hn; exact vl_calls W A c hc hr
theorem hd2_calls {nf : Nat} (hn : nf = fcl.length) (W : World) (A : Option Addr) (c : Nat) (Am : Option Addr) (cm : Nat) (hc : nf ≤ c) (hr : kL.C W A nf fcl) (hm : kI.C W Am 4 [-1, 2, -3, 4]) :
    Calls Tryz.prog 17 #[.agg #[.int .i64 4, .slice A nf c], .slice Am 4 cm] W fun e w' => e = .returned (.bool true) ∧ Below W.heap.size W w' := by subst hn; exact hd_calls W A c Am cm hc hr hm
theorem l5_calls (W : World) : Calls Tryz.prog 19 #[.int .i64 5] W fun e w' => e = .returned (.int .i64 (-3)) ∧ w' = W := by
  have h := lit_calls 5 W
  rwa [a_lit] at h
/-- What the calls have left. -/
structure A1 (w W : World) (g1 nf : Nat) (A : Option Addr) (c : Nat) : Prop where
  b : W.heap[g1]? = some (.cells #[.int .i64 4, .slice A nf c] 24 (0, 0))
  row : kL.C W A nf fcl
  hc : nf ≤ c
  below : Below w.heap.size w W
  tabs : Tabs W
theorem A1.later {w W W' : World} {g1 nf : Nat} {A : Option Addr} {c : Nat} (h : A1 w W g1 nf A c) (hb : Below W.heap.size W W') : A1 w W' g1 nf A c :=
  ⟨blk_below h.b hb, Kd.C_below h.row hb, h.hc, below_step h.below hb, h.tabs.same hb⟩
structure A9 (w W : World) (g1 g8 nf : Nat) (A : Option Addr) (c : Nat) (A3 : Option Addr) (c3 : Nat) (A6 : Option Addr) (c6 : Nat) (A8 : Option Addr) (c8 : Nat) : Prop where
  a1 : A1 w W g1 nf A c
  r3 : kI.C W A3 4 [-1, 2, -3, 4]
  r6 : kI.C W A6 2 [-2, 3]
  b8 : W.heap[g8]? = some (.cells #[.int .i64 2, .slice A8 1 c8] 24 (0, 0))
  r8 : kL.C W A8 1 [[1, -2]]
theorem A9.later {w W W' : World} {g1 g8 nf : Nat} {A : Option Addr} {c : Nat} {A3 : Option Addr} {c3 : Nat} {A6 : Option Addr} {c6 : Nat} {A8 : Option Addr} {c8 : Nat} (h : A9 w W g1 g8 nf A c A3 c3 A6 c6 A8 c8) (hb : Below W.heap.size W W') : A9 w W' g1 g8 nf A c A3 c3 A6 c6 A8 c8 :=
  ⟨h.a1.later hb, Kd.C_below h.r3 hb, Kd.C_below h.r6 hb, blk_below h.b8 hb, Kd.C_below h.r8 hb⟩
theorem A9.cells {w W : World} {g1 g8 nf : Nat} {A : Option Addr} {c : Nat} {A3 : Option Addr} {c3 : Nat} {A6 : Option Addr} {c6 : Nat} {A8 : Option Addr} {c8 : Nat} (h : A9 w W g1 g8 nf A c A3 c3 A6 c6 A8 c8) :
    W.cell? ⟨g1, 0, none⟩ = some (.int .i64 4) ∧ W.cell? ⟨g1, 1, none⟩ = some (.slice A nf c) ∧ W.cell? ⟨g8, 0, none⟩ = some (.int .i64 2) ∧ W.cell? ⟨g8, 1, none⟩ = some (.slice A8 1 c8) :=
  ⟨(blk_cell h.a1.b 0).trans rfl, (blk_cell h.a1.b 1).trans rfl, (blk_cell h.b8 0).trans rfl, (blk_cell h.b8 1).trans rfl⟩
set_option maxHeartbeats 16000000 in
set_option maxRecDepth 100000 in
theorem awake_calls (w : World) (hT : Tabs w) : Calls Tryz.prog 10 #[] w fun e w' => e = .returned (.bool true) ∧ Below w.heap.size w w' := by
  have hu38 := Tryz.underlying38
  have hu62 := Tryz.underlying62
  have hu24 := Tryz.underlying24
  have HT := Aside0.mk hT
  clear hT
  go_enter Tryz.func10, Tryz.ntmps10
  go_upto_region 1 with (fail)
  go_wp2_with (((with_reducible refine gate_dst (N := 14) rfl ?_); refine Kd.R_lit kI _ 3 ?hg (N := 14) ?hd (xs := ([6] : List Int)) (inner := [.int .i64 (6)]) (ok := fun _ => True) (okp := fun _ => True) ?hr ?hp (fun _ hk => hk) trivial (Below.refl _ _) (Nat.le_refl _) (by simp) ?_; (case hd => rfl); (case hg => rfl); (case hr => first | (go_simp; done) | (go_simp; rfl)); (case hp => exact (Reps.one (show Kd.M kI _ _ _ (6) [.int .i64 (6)] from rfl) (Reps.none _ _))); intro v14 w14 h1_ h2_ h3_ h4_; have HO14 := Aside0.mk h1_; have HB14 := Aside0.mk h2_; clear h1_ h2_ h3_ h4_); obtain ⟨Al, cl, el⟩ := Kd.R_slice HO14.out; subst el)
  refine (tr_calls w14 (some ⟨w.heap.size, 0, none⟩) 1 Al cl (Nat.le_refl _) (Kd.C_below (gate_row w) HB14.out) (Kd.R_reads' HO14.out).2.2).mono ?_
  rintro e w15 ⟨A, c, rfl, hc, hr, hb⟩
  have HN15 := Aside0.mk (And.intro hc hr)
  have HB15 := Aside0.mk hb
  obtain ⟨nf, hnf⟩ : ∃ n, n = fcl.length := ⟨_, rfl⟩
  rw [← hnf]
  have HNF := Aside0.mk hnf
  clear hc hr hb hnf
  go_wp2_with (first
    | ((with_reducible refine gate_dst (N := 1) rfl ?_); refine box_event ?hg (N := 1) ?hd (cs := #[.int .i64 0, .slice none 0 0]) (t := 24) ?hr ?_; (case hd => rfl); (case hg => rfl); (case hr => first | (go_simp; done) | (go_simp; rfl)); intro g1 hg_ w16 h1_ h2_; have BK1 := Aside0.mk h1_; have HB16 := Aside0.mk h2_; have GEg1 := Aside0.mk hg_; clear h1_ h2_ hg_)
    | (((with_reducible refine gate_ (.store 24 (.tmp 1) (.tmp 16)) rfl ?_); refine st_box rfl rfl 24 (.tmp 1) (.tmp 16) rfl (g := g1) (T := 24) (cur := #[.int .i64 0, .slice none 0 0]) (u := .agg #[.int .i64 4, .slice A nf c]) rfl rfl (BK1.out) size24 rfl (by simp [Value.cells, Value.oneCell']) ?_; intro w17 h1_ h2_; have BK2 := Aside0.mk h1_; have HG17 := Aside0.mk h2_; clear h1_ h2_); have HX17 := Aside0.mk (show Below w15.heap.size w15 w17 from below_grown HB16.out HB16.out.size HG17.out (by rw [GEg1.out]; exact Nat.le_refl _)); have k10 : w17.cell? ⟨g1, 0, none⟩ = some (.int .i64 4) := (blk_cell BK2.out 0).trans rfl; have k11 : w17.cell? ⟨g1, 1, none⟩ = some (.slice A nf c) := (blk_cell BK2.out 1).trans rfl)
    | (((with_reducible refine gate_dst (N := 20) rfl ?_); refine Kd.R_lit kI _ 3 ?hg (N := 20) ?hd (xs := ([2, -3] : List Int)) (inner := [.int .i64 (2), .int .i64 (-3)]) (ok := fun _ => True) (okp := fun _ => True) ?hr ?hp (fun _ hk => hk) trivial (Below.refl _ _) (Nat.le_refl _) (by simp) ?_; (case hd => rfl); (case hg => rfl); (case hr => first | (go_simp; done) | (go_simp; rfl)); (case hp => exact (Reps.one (show Kd.M kI _ _ _ (2) [.int .i64 (2)] from rfl) (Reps.one (show Kd.M kI _ _ _ (-3) [.int .i64 (-3)] from rfl) (Reps.none _ _)))); intro v20 w20 h1_ h2_ h3_ h4_; have HO20 := Aside0.mk h1_; have HB20 := Aside0.mk h2_; clear h1_ h2_ h3_ h4_); obtain ⟨As, cs, es⟩ := Kd.R_slice HO20.out; subst es))
  have HA : Aside0 (A1 w w20 g1 nf A c) := ⟨by
    have hbw : Below w.heap.size w w15 := below_step (below_step (below_alloc (Below.refl _ w) _) HB14.out) HB15.out
    have hrow : kL.C w15 A nf fcl := by rw [HNF.out]; exact HN15.out.2
    exact A1.later ⟨BK2.out, Kd.C_below hrow HX17.out, by rw [HNF.out]; exact HN15.out.1, below_step hbw HX17.out, (HT.out.same (below_step hbw HX17.out))⟩ HB20.out⟩
  clear k10 k11 BK1 BK2 HG17 HB16 HX17 GEg1 HN15 HB15 HB14 HO14
  refine (show Calls Tryz.prog 24 #[.agg #[.int .i64 4, .slice A nf c], .slice As 2 cs] w20 _ from by rw [HNF.out]; exact pr_calls w20 A c As cs (by have := HA.out.hc; rw [HNF.out] at this; exact this) (by have := HA.out.row; rw [HNF.out] at this; exact this) (Kd.R_reads' HO20.out).2.2).mono ?_
  rintro e w21 ⟨A3, c3, rfl, hc3, hr3, hb21⟩
  have HA21 := Aside0.mk (HA.out.later hb21)
  have H3 := Aside0.mk (And.intro hc3 hr3)
  clear hc3 hr3 hb21 HA HO20 HB20
  go_wp2_with (((with_reducible refine gate_dst (N := 26) rfl ?_); refine Kd.R_lit kI _ 3 ?hg (N := 26) ?hd (xs := ([3, -2, 3] : List Int)) (inner := [.int .i64 (3), .int .i64 (-2), .int .i64 (3)]) (ok := fun _ => True) (okp := fun _ => True) ?hr ?hp (fun _ hk => hk) trivial (Below.refl _ _) (Nat.le_refl _) (by simp) ?_; (case hd => rfl); (case hg => rfl); (case hr => first | (go_simp; done) | (go_simp; rfl)); (case hp => exact (Reps.one (show Kd.M kI _ _ _ (3) [.int .i64 (3)] from rfl) (Reps.one (show Kd.M kI _ _ _ (-2) [.int .i64 (-2)] from rfl) (Reps.one (show Kd.M kI _ _ _ (3) [.int .i64 (3)] from rfl) (Reps.none _ _))))); intro v26 w26 h1_ h2_ h3_ h4_; have HO26 := Aside0.mk h1_; have HB26 := Aside0.mk h2_; clear h1_ h2_ h3_ h4_); obtain ⟨An, cn, en⟩ := Kd.R_slice HO26.out; subst en)
  refine (nm_calls w26 An cn (Kd.R_reads' HO26.out).2.1 (Kd.R_reads' HO26.out).2.2).mono ?_
  rintro e w27 ⟨A6, c6, rfl, hc6, hr6, hb27⟩
  have HA27 := Aside0.mk ((HA21.out.later HB26.out).later hb27)
  have H3' := Aside0.mk (And.intro H3.out.1 (Kd.C_below (Kd.C_below H3.out.2 HB26.out) hb27))
  have H6 := Aside0.mk (And.intro hc6 hr6)
  clear hc6 hr6 hb27 HA21 H3 HO26 HB26
  go_wp2_with (first
    | (go_at_call 26; refine (ps_calls w27 HA27.out.tabs).mono ?_; rintro e w31 ⟨A8, c8, rfl, hc8, hr8, hb31⟩; have HA31 := Aside0.mk (HA27.out.later hb31); have H31 := Aside0.mk (And.intro H3'.out.1 (Kd.C_below H3'.out.2 hb31)); have H61 := Aside0.mk (And.intro H6.out.1 (Kd.C_below H6.out.2 hb31)); have H8 := Aside0.mk (And.intro hc8 hr8); clear hc8 hr8 hb31)
    | ((with_reducible refine gate_dst (N := 8) rfl ?_); refine box_event ?hg (N := 8) ?hd (cs := #[.int .i64 0, .slice none 0 0]) (t := 24) ?hr ?_; (case hd => rfl); (case hg => rfl); (case hr => first | (go_simp; done) | (go_simp; rfl)); intro g8 hg_ w32 h1_ h2_; have BK1 := Aside0.mk h1_; have HB32 := Aside0.mk h2_; have GEg8 := Aside0.mk hg_; clear h1_ h2_ hg_)
    | (((with_reducible refine gate_ (.store 24 (.tmp 8) (.tmp 32)) rfl ?_); refine st_box rfl rfl 24 (.tmp 8) (.tmp 32) rfl (g := g8) (T := 24) (cur := #[.int .i64 0, .slice none 0 0]) (u := .agg #[.int .i64 2, .slice A8 1 c8]) rfl rfl (BK1.out) size24 rfl (by simp [Value.cells, Value.oneCell']) ?_; intro w33 h1_ h2_; have BK8 := Aside0.mk h1_; have HG33 := Aside0.mk h2_; clear h1_ h2_); have HX33 := Aside0.mk (show Below w31.heap.size w31 w33 from below_grown HB32.out HB32.out.size HG33.out (by rw [GEg8.out]; exact Nat.le_refl _)); have HA33 := Aside0.mk (HA31.out.later HX33.out); have k10 : w33.cell? ⟨g1, 0, none⟩ = some (.int .i64 4) := (blk_cell HA33.out.b 0).trans rfl; have k11 : w33.cell? ⟨g1, 1, none⟩ = some (.slice A nf c) := (blk_cell HA33.out.b 1).trans rfl)
    | (((with_reducible refine gate_dst (N := 44) rfl ?_); (try (refine gate_guard (by rfl) ?_; dsimp only)); refine Kd.R_lit kI _ 3 ?hg (N := 44) ?hd (xs := ([-1] : List Int)) (inner := [.int .i64 (-1)]) (ok := fun _ => True) (okp := fun _ => True) ?hr ?hp (fun _ hk => hk) trivial (Below.refl _ _) (Nat.le_refl _) (by simp) ?_; (case hd => rfl); (case hg => rfl); (case hr => first | (go_simp; done) | (go_simp; rfl)); (case hp => exact (Reps.one (show Kd.M kI _ _ _ (-1) [.int .i64 (-1)] from rfl) (Reps.none _ _))); intro v44 w44 h1_ h2_ h3_ h4_; have HO44 := Aside0.mk h1_; have HB44 := Aside0.mk h2_; clear h1_ h2_ h3_ h4_); obtain ⟨A44, c44, e44⟩ := Kd.R_slice HO44.out; subst e44)
    | (((with_reducible refine gate_dst (N := 45) rfl ?_); (try (refine gate_guard (by rfl) ?_; dsimp only)); refine Kd.R_lit kI _ 3 ?hg (N := 45) ?hd (xs := ([2, -4] : List Int)) (inner := [.int .i64 (2), .int .i64 (-4)]) (ok := fun _ => True) (okp := fun _ => True) ?hr ?hp (fun _ hk => hk) trivial (Below.refl _ _) (Nat.le_refl _) (by simp) ?_; (case hd => rfl); (case hg => rfl); (case hr => first | (go_simp; done) | (go_simp; rfl)); (case hp => exact (Reps.one (show Kd.M kI _ _ _ (2) [.int .i64 (2)] from rfl) (Reps.one (show Kd.M kI _ _ _ (-4) [.int .i64 (-4)] from rfl) (Reps.none _ _)))); intro v45 w45 h1_ h2_ h3_ h4_; have HO45 := Aside0.mk h1_; have HB45 := Aside0.mk h2_; clear h1_ h2_ h3_ h4_); obtain ⟨A45, c45, e45⟩ := Kd.R_slice HO45.out; subst e45)
    | (((with_reducible refine gate_dst (N := 46) rfl ?_); (try (refine gate_guard (by rfl) ?_; dsimp only)); refine Kd.R_lit kI _ 3 ?hg (N := 46) ?hd (xs := ([-3, -4] : List Int)) (inner := [.int .i64 (-3), .int .i64 (-4)]) (ok := fun _ => True) (okp := fun _ => True) ?hr ?hp (fun _ hk => hk) trivial (Below.refl _ _) (Nat.le_refl _) (by simp) ?_; (case hd => rfl); (case hg => rfl); (case hr => first | (go_simp; done) | (go_simp; rfl)); (case hp => exact (Reps.one (show Kd.M kI _ _ _ (-3) [.int .i64 (-3)] from rfl) (Reps.one (show Kd.M kI _ _ _ (-4) [.int .i64 (-4)] from rfl) (Reps.none _ _)))); intro v46 w46 h1_ h2_ h3_ h4_; have HO46 := Aside0.mk h1_; have HB46 := Aside0.mk h2_; clear h1_ h2_ h3_ h4_); obtain ⟨A46, c46, e46⟩ := Kd.R_slice HO46.out; subst e46)
    | (((with_reducible refine gate_dst (N := 47) rfl ?_); (try (refine gate_guard (by rfl) ?_; dsimp only)); refine Kd.R_lit kI _ 3 ?hg (N := 47) ?hd (xs := ([-2, 3, 4] : List Int)) (inner := [.int .i64 (-2), .int .i64 (3), .int .i64 (4)]) (ok := fun _ => True) (okp := fun _ => True) ?hr ?hp (fun _ hk => hk) trivial (Below.refl _ _) (Nat.le_refl _) (by simp) ?_; (case hd => rfl); (case hg => rfl); (case hr => first | (go_simp; done) | (go_simp; rfl)); (case hp => exact (Reps.one (show Kd.M kI _ _ _ (-2) [.int .i64 (-2)] from rfl) (Reps.one (show Kd.M kI _ _ _ (3) [.int .i64 (3)] from rfl) (Reps.one (show Kd.M kI _ _ _ (4) [.int .i64 (4)] from rfl) (Reps.none _ _))))); intro v47 w47 h1_ h2_ h3_ h4_; have HO47 := Aside0.mk h1_; have HB47 := Aside0.mk h2_; clear h1_ h2_ h3_ h4_); obtain ⟨A47, c47, e47⟩ := Kd.R_slice HO47.out; subst e47)
    | (((with_reducible refine gate_dst (N := 48) rfl ?_); (try (refine gate_guard (by rfl) ?_; dsimp only)); refine Kd.R_lit kI _ 3 ?hg (N := 48) ?hd (xs := ([4] : List Int)) (inner := [.int .i64 (4)]) (ok := fun _ => True) (okp := fun _ => True) ?hr ?hp (fun _ hk => hk) trivial (Below.refl _ _) (Nat.le_refl _) (by simp) ?_; (case hd => rfl); (case hg => rfl); (case hr => first | (go_simp; done) | (go_simp; rfl)); (case hp => exact (Reps.one (show Kd.M kI _ _ _ (4) [.int .i64 (4)] from rfl) (Reps.none _ _))); intro v48 w48 h1_ h2_ h3_ h4_; have HO48 := Aside0.mk h1_; have HB48 := Aside0.mk h2_; clear h1_ h2_ h3_ h4_); obtain ⟨A48, c48, e48⟩ := Kd.R_slice HO48.out; subst e48))
  have h5 := row5 w48 A44 A45 A46 A47 A48 c44 c45 c46 c47 c48 (Kd.C_below (Kd.C_below (Kd.C_below (Kd.C_below (Kd.R_reads' HO44.out).2.2 HB45.out) HB46.out) HB47.out) HB48.out) (Kd.C_below (Kd.C_below (Kd.C_below (Kd.R_reads' HO45.out).2.2 HB46.out) HB47.out) HB48.out) (Kd.C_below (Kd.C_below (Kd.R_reads' HO46.out).2.2 HB47.out) HB48.out) (Kd.C_below (Kd.R_reads' HO47.out).2.2 HB48.out) (Kd.R_reads' HO48.out).2.2 (Kd.R_reads' HO44.out).2.1 (Kd.R_reads' HO45.out).2.1 (Kd.R_reads' HO46.out).2.1 (Kd.R_reads' HO47.out).2.1 (Kd.R_reads' HO48.out).2.1
  have hB49 : Below w48.heap.size w48 (w48.alloc (.cells #[.slice A44 1 c44, .slice A45 2 c45, .slice A46 2 c46, .slice A47 3 c47, .slice A48 1 c48] 25)) := below_alloc (Below.refl _ _) _
  have H9 : A9 w w33 g1 g8 nf A c A3 c3 A6 c6 A8 c8 := ⟨HA33.out, Kd.C_below H31.out.2 HX33.out, Kd.C_below H61.out.2 HX33.out, BK8.out, Kd.C_below H8.out.2 HX33.out⟩
  have H49 := (((((H9.later HB44.out).later HB45.out).later HB46.out).later HB47.out).later HB48.out).later hB49
  obtain ⟨w49, hw49⟩ : ∃ x, (w48.alloc (.cells #[.slice A44 1 c44, .slice A45 2 c45, .slice A46 2 c46, .slice A47 3 c47, .slice A48 1 c48] 25)) = x := ⟨_, rfl⟩
  rw [hw49] at h5 H49 ⊢
  have HC3 := Aside0.mk (And.intro H31.out.1 (And.intro H61.out.1 H8.out.1))
  have HA49 := Aside0.mk H49
  have HR5 := Aside0.mk h5
  clear h5 hB49 H9 H49 hw49 HO44 HO45 HO46 HO47 HO48 HB44 HB45 HB46 HB47 HB48 HA33 H31 H61 H8 HX33 BK8 k10 k11 HG33 BK1 HB32 GEg8 HA31
  refine (show Calls Tryz.prog 40 #[.slice A nf c, .slice (some ⟨w48.heap.size, 0, none⟩) 5 5] w49 _ from by rw [HNF.out]; exact cl_calls w49 A c _ (by have := HA49.out.a1.hc; rw [HNF.out] at this; exact this) (by have := HA49.out.a1.row; rw [HNF.out] at this; exact this) HR5.out).mono ?_
  rintro e w50 ⟨rfl, hd⟩
  have HA50 := Aside0.mk (HA49.out.later hd.below)
  clear hd HA49 HR5
  go_wp2_with (((with_reducible refine gate_dst (N := 54) rfl ?_); (try (refine gate_guard (by rfl) ?_; dsimp only)); refine Kd.R_lit kI _ 3 ?hg (N := 54) ?hd (xs := ([-1, 2, -3, 4] : List Int)) (inner := [.int .i64 (-1), .int .i64 (2), .int .i64 (-3), .int .i64 (4)]) (ok := fun _ => True) (okp := fun _ => True) ?hr ?hp (fun _ hk => hk) trivial (Below.refl _ _) (Nat.le_refl _) (by simp) ?_; (case hd => rfl); (case hg => rfl); (case hr => first | (go_simp; done) | (go_simp; rfl)); (case hp => exact (Reps.one (show Kd.M kI _ _ _ (-1) [.int .i64 (-1)] from rfl) (Reps.one (show Kd.M kI _ _ _ (2) [.int .i64 (2)] from rfl) (Reps.one (show Kd.M kI _ _ _ (-3) [.int .i64 (-3)] from rfl) (Reps.one (show Kd.M kI _ _ _ (4) [.int .i64 (4)] from rfl) (Reps.none _ _)))))); intro v54 w54 h1_ h2_ h3_ h4_; have HO54 := Aside0.mk h1_; have HB54 := Aside0.mk h2_; clear h1_ h2_ h3_ h4_); obtain ⟨A54, c54, e54⟩ := Kd.R_slice HO54.out; subst e54)
  refine (eq4_calls w54 A3 c3 A54 c54 HC3.out.1 (HA50.out.later HB54.out).r3 (Kd.R_reads' HO54.out).2.1 (Kd.R_reads' HO54.out).2.2).mono ?_
  rintro e w55 ⟨rfl, hd⟩
  have HA55 := Aside0.mk ((HA50.out.later HB54.out).later hd.below)
  clear hd HA50 HO54 HB54
  go_wp2_with (((with_reducible refine gate_dst (N := 69) rfl ?_); (try (refine gate_guard (by rfl) ?_; dsimp only)); refine Kd.R_lit kI _ 3 ?hg (N := 69) ?hd (xs := ([-2, 3] : List Int)) (inner := [.int .i64 (-2), .int .i64 (3)]) (ok := fun _ => True) (okp := fun _ => True) ?hr ?hp (fun _ hk => hk) trivial (Below.refl _ _) (Nat.le_refl _) (by simp) ?_; (case hd => rfl); (case hg => rfl); (case hr => first | (go_simp; done) | (go_simp; rfl)); (case hp => exact (Reps.one (show Kd.M kI _ _ _ (-2) [.int .i64 (-2)] from rfl) (Reps.one (show Kd.M kI _ _ _ (3) [.int .i64 (3)] from rfl) (Reps.none _ _)))); intro v69 w69 h1_ h2_ h3_ h4_; have HO69 := Aside0.mk h1_; have HB69 := Aside0.mk h2_; clear h1_ h2_ h3_ h4_); obtain ⟨A69, c69, e69⟩ := Kd.R_slice HO69.out; subst e69)
  refine (eq2_calls w69 A6 c6 A69 c69 HC3.out.2.1 (HA55.out.later HB69.out).r6 (Kd.R_reads' HO69.out).2.1 (Kd.R_reads' HO69.out).2.2).mono ?_
  rintro e w70 ⟨rfl, hd⟩
  have HA70 := Aside0.mk ((HA55.out.later HB69.out).later hd.below)
  obtain ⟨k10, k11, k80, k81⟩ := HA70.out.cells
  clear hd HA55 HO69 HB69
  go_wp2_with (first
    | (go_at_call 28; refine (fm_calls w70 A8 c8 HC3.out.2.2 HA70.out.r8 HA70.out.a1.tabs).mono ?_; rintro e w78 ⟨rfl, hb⟩; have HA78 := Aside0.mk (HA70.out.later hb); have q1 := HA78.out.cells.1; have q2 := HA78.out.cells.2.1; clear hb)
    | (go_at_call 15; refine (vl2_calls HNF.out w78 A c HA78.out.a1.hc HA78.out.a1.row).mono ?_; rintro e w83 ⟨rfl, hb⟩; have HA83 := Aside0.mk (HA78.out.later hb); have p1 := HA83.out.cells.1; have p2 := HA83.out.cells.2.1; clear hb)
    | (((with_reducible refine gate_dst (N := 87) rfl ?_); (try (refine gate_guard (by rfl) ?_; dsimp only)); refine Kd.R_lit kI _ 3 ?hg (N := 87) ?hd (xs := ([-1, 2, -3, 4] : List Int)) (inner := [.int .i64 (-1), .int .i64 (2), .int .i64 (-3), .int .i64 (4)]) (ok := fun _ => True) (okp := fun _ => True) ?hr ?hp (fun _ hk => hk) trivial (Below.refl _ _) (Nat.le_refl _) (by simp) ?_; (case hd => rfl); (case hg => rfl); (case hr => first | (go_simp; done) | (go_simp; rfl)); (case hp => exact (Reps.one (show Kd.M kI _ _ _ (-1) [.int .i64 (-1)] from rfl) (Reps.one (show Kd.M kI _ _ _ (2) [.int .i64 (2)] from rfl) (Reps.one (show Kd.M kI _ _ _ (-3) [.int .i64 (-3)] from rfl) (Reps.one (show Kd.M kI _ _ _ (4) [.int .i64 (4)] from rfl) (Reps.none _ _)))))); intro v87 w87 h1_ h2_ h3_ h4_; have HO87 := Aside0.mk h1_; have HB87 := Aside0.mk h2_; clear h1_ h2_ h3_ h4_); obtain ⟨A87, c87, e87⟩ := Kd.R_slice HO87.out; subst e87)
    | (go_at_call 17; refine (hd2_calls HNF.out w87 A c A87 c87 HA83.out.a1.hc (HA83.out.later HB87.out).a1.row (Kd.R_reads' HO87.out).2.2).mono ?_; rintro e w88 ⟨rfl, hb⟩; have HA88 := Aside0.mk ((HA83.out.later HB87.out).later hb); clear hb)
    | (go_at_call 19; refine (l5_calls _).mono ?_; rintro e w' ⟨rfl, rfl⟩))
  go_ret
  exact ⟨rfl, HA88.out.a1.below⟩
end Go.Proofs.YteaohgebocbehaaGreatDoor.Hand
end
section
/- The reference's Small and Same, as the printed functions answer. -/
set_option linter.unusedVariables false
namespace Go.Proofs.YteaohgebocbehaaGreatDoor.Plain
open Go.RowKit Go.Lib Go.Proofs.YteaohgebocbehaaGreatDoor.XA Go.Proofs.YteaohgebocbehaaGreatDoorW.PrintWords
def smallC (n : Int) (cl : List (List Int)) (v m : Int) : Bool := cl.all (fun c => decide (c.length ≤ 30)) && (decide (n ≤ v) && decide ((cl.length : Int) ≤ m))
theorem small_ev (n v m : Int) (cl : List (List Int)) (hl : cl.length ≤ 9223372036854775807) :
    ∀ (d : Nat) (x : Int), 0 ≤ x → x ≤ cl.length → (cl.length : Int) - x = d → Ev (fun k => assessorref26_Small.l0 k v m x n cl) ((cl.drop x.toNat).all (fun c => decide (c.length ≤ 30)) && (decide (n ≤ v) && decide ((cl.length : Int) ≤ m))) := by
  intro d
  induction d with
  | zero =>
    intro x h0 h1 hd
    rw [List.drop_eq_nil_of_le (by omega)]
    by_cases hn : n ≤ v
    · refine Ev.step (f := fun _ => some (decide ((cl.length : Int) ≤ m))) (fun k => by simp only [assessorref26_Small.l0]; rw [if_neg (by omega), if_pos hn]) ?_
      rw [decide_eq_true hn]
      simp only [List.all_nil, Bool.true_and]
      exact Ev.now _
    · refine Ev.step (f := fun _ => some false) (fun k => by simp only [assessorref26_Small.l0]; rw [if_neg (by omega), if_neg hn]) ?_
      rw [decide_eq_false hn]
      exact Ev.now _
  | succ d ih =>
    intro x h0 h1 hd
    have hlt : x < (cl.length : Int) := by omega
    have hw2 : wrap64 (x + 1) = x + 1 := by unfold wrap64; omega
    rw [drop_rdL h0 hlt, List.all_cons]
    by_cases h3 : ((rd_L1 cl x).length : Int) > 30
    · rw [decide_eq_false (show ¬ (rd_L1 cl x).length ≤ 30 by omega), Bool.false_and, Bool.false_and]
      exact Ev.step (f := fun _ => some false) (fun k => by simp only [assessorref26_Small.l0]; rw [if_pos hlt, if_pos h0, if_pos h3]) (Ev.now _)
    · rw [decide_eq_true (show (rd_L1 cl x).length ≤ 30 by omega), Bool.true_and]
      exact Ev.step (f := fun k => assessorref26_Small.l0 k v m (x + 1) n cl) (fun k => by simp only [assessorref26_Small.l0]; rw [if_pos hlt, if_pos h0, if_neg h3, hw2]) (ih (x + 1) (by omega) (by omega) (by omega))
theorem small_f (n v m : Int) (cl : List (List Int)) (hl : cl.length ≤ 9223372036854775807) : Ev (fun k => assessorref26_Small.f k n cl v m) (smallC n cl v m) := small_ev n v m cl hl cl.length 0 (by omega) (by omega) (by omega)
theorem clauses1_ev (x0 x1 : List (List Int)) (x5 : Int) (h5 : 0 ≤ x5) (ha : x5 < (x0.length : Int)) (hb : x5 < (x1.length : Int)) (hl : x0.length ≤ 4611686018427387904) (hlen : (rd_L1 x0 x5).length = (rd_L1 x1 x5).length) (hm : (rd_L1 x0 x5).length ≤ 4611686018427387904) (R : Bool) (hR : Ev (fun k => assessorref26_Clauses.l0 k x0 x1 (x5 + 1)) R) :
    ∀ (d : Nat) (x : Int), 0 ≤ x → x ≤ (rd_L1 x0 x5).length → ((rd_L1 x0 x5).length : Int) - x = d → Ev (fun k => assessorref26_Clauses.l1 k x0 x1 x5 x) (decide ((rd_L1 x0 x5).drop x.toNat = (rd_L1 x1 x5).drop x.toNat) && R) := by
  intro d
  have hw : wrap64 (x5 + 1) = x5 + 1 := by unfold wrap64; omega
  induction d with
  | zero =>
    intro x h0 h1 hd
    rw [List.drop_eq_nil_of_le (by omega), List.drop_eq_nil_of_le (by omega)]
    simp only [decide_true, Bool.true_and]
    exact Ev.step (f := fun k => assessorref26_Clauses.l0 k x0 x1 (x5 + 1)) (fun k => by simp only [assessorref26_Clauses.l1]; rw [if_pos h5, if_pos ha, if_neg (by omega), hw]) hR
  | succ d ih =>
    intro x h0 h1 hd
    have hlt : x < ((rd_L1 x0 x5).length : Int) := by omega
    have hlt2 : x < ((rd_L1 x1 x5).length : Int) := by omega
    have hw2 : wrap64 (x + 1) = x + 1 := by unfold wrap64; omega
    rw [drop_rd h0 hlt, drop_rd h0 hlt2]
    by_cases h3 : rd (rd_L1 x0 x5) x = rd (rd_L1 x1 x5) x
    · have e : decide (rd (rd_L1 x0 x5) x :: (rd_L1 x0 x5).drop (x + 1).toNat = rd (rd_L1 x1 x5) x :: (rd_L1 x1 x5).drop (x + 1).toNat) = decide ((rd_L1 x0 x5).drop (x + 1).toNat = (rd_L1 x1 x5).drop (x + 1).toNat) := by
        rw [h3]
        exact decide_eq_decide.2 (by simp)
      rw [e]
      exact Ev.step (f := fun k => assessorref26_Clauses.l1 k x0 x1 x5 (x + 1)) (fun k => by simp only [assessorref26_Clauses.l1]; rw [if_pos h5, if_pos ha, if_pos hlt, if_pos h0, if_pos hb, if_pos hlt2, if_pos h3, hw2]) (ih (x + 1) (by omega) (by omega) (by omega))
    · rw [decide_eq_false (by simp [h3]), Bool.false_and]
      exact Ev.step (f := fun _ => some false) (fun k => by simp only [assessorref26_Clauses.l1]; rw [if_pos h5, if_pos ha, if_pos hlt, if_pos h0, if_pos hb, if_pos hlt2, if_neg h3]) (Ev.now _)
theorem rdL_mem {cl : List (List Int)} {x : Int} (h0 : 0 ≤ x) (h1 : x < (cl.length : Int)) : rd_L1 cl x ∈ cl := by rw [rdL_get h0 h1]; exact List.getElem_mem _
theorem clauses_ev (x0 x1 : List (List Int)) (hl : x0.length ≤ 4611686018427387904) (hlen : x0.length = x1.length) (hm : ∀ c ∈ x0, c.length ≤ 4611686018427387904) :
    ∀ (d : Nat) (x : Int), 0 ≤ x → x ≤ x0.length → (x0.length : Int) - x = d → Ev (fun k => assessorref26_Clauses.l0 k x0 x1 x) (decide (x0.drop x.toNat = x1.drop x.toNat)) := by
  intro d
  induction d with
  | zero =>
    intro x h0 h1 hd
    rw [List.drop_eq_nil_of_le (by omega), List.drop_eq_nil_of_le (by omega)]
    exact Ev.step (f := fun _ => some true) (fun k => by simp only [assessorref26_Clauses.l0]; rw [if_neg (by omega)]) (Ev.now _)
  | succ d ih =>
    intro x h0 h1 hd
    have hlt : x < (x0.length : Int) := by omega
    have hlt2 : x < (x1.length : Int) := by omega
    rw [drop_rdL h0 hlt, drop_rdL h0 hlt2]
    by_cases h3 : ((rd_L1 x0 x).length : Int) = ((rd_L1 x1 x).length : Int)
    · have h4 := clauses1_ev x0 x1 x h0 hlt hlt2 hl (by omega) (hm _ (rdL_mem h0 hlt)) _ (ih (x + 1) (by omega) (by omega) (by omega)) (rd_L1 x0 x).length 0 (by omega) (by omega) (by omega)
      have e : decide (rd_L1 x0 x :: x0.drop (x + 1).toNat = rd_L1 x1 x :: x1.drop (x + 1).toNat) = (decide ((rd_L1 x0 x).drop (0 : Int).toNat = (rd_L1 x1 x).drop (0 : Int).toNat) && decide (x0.drop (x + 1).toNat = x1.drop (x + 1).toNat)) := by
        rw [← Bool.decide_and]
        exact decide_eq_decide.2 (by simp)
      rw [e]
      exact Ev.step (f := fun k => assessorref26_Clauses.l1 k x0 x1 x 0) (fun k => by simp only [assessorref26_Clauses.l0]; rw [if_pos hlt, if_pos h0, if_pos hlt2, if_pos h3]) h4
    · rw [decide_eq_false (by intro h; injection h with h _; rw [h] at h3; exact h3 rfl)]
      exact Ev.step (f := fun _ => some false) (fun k => by simp only [assessorref26_Clauses.l0]; rw [if_pos hlt, if_pos h0, if_pos hlt2, if_neg h3]) (Ev.now _)
theorem clauses_f (x0 x1 : List (List Int)) (hl : x0.length ≤ 4611686018427387904) (hm : ∀ c ∈ x0, c.length ≤ 4611686018427387904) : Ev (fun k => assessorref26_Clauses.f k x0 x1) (decide (x0 = x1)) := by
  unfold assessorref26_Clauses.f
  by_cases h : (x0.length : Int) = (x1.length : Int)
  · simp only [if_pos h]
    exact clauses_ev x0 x1 hl (by omega) hm x0.length 0 (by omega) (by omega) (by omega)
  · simp only [if_neg h]
    rw [decide_eq_false (by intro e; rw [e] at h; exact h rfl)]
    exact Ev.now _
theorem same_f (n0 n1 : Int) (x0 x1 : List (List Int)) (hl : x0.length ≤ 4611686018427387904) (hm : ∀ c ∈ x0, c.length ≤ 4611686018427387904) : Ev (fun k => assessorref26_Same.f k n0 x0 n1 x1) (decide (n0 = n1) && decide (x0 = x1)) := by
  unfold assessorref26_Same.f
  by_cases h : n0 = n1
  · simp only [if_pos h]
    rw [decide_eq_true h, Bool.true_and]
    exact Ev.bind (clauses_f x0 x1 hl hm) (Ev.now _)
  · simp only [if_neg h]
    rw [decide_eq_false h, Bool.false_and]
    exact Ev.now _
end Go.Proofs.YteaohgebocbehaaGreatDoor.Plain
end
section
/- slices.Equal on lists of numbers, as the printed function answers. Condition: lists shorter than 2^62. -/
set_option linter.unusedVariables false
namespace Go.Proofs.YteaohgebocbehaaGreatDoor.Plain
open Go.RowKit Go.Proofs.YteaohgebocbehaaGreatDoor.XA Go.Proofs.YteaohgebocbehaaGreatDoorW.PrintWords
theorem equal_ev (x y : List Int) (hl : x.length = y.length) (hb : x.length ≤ 4611686018427387904) :
    ∀ (d : Nat) (i : Int), 0 ≤ i → i ≤ x.length → (x.length : Int) - i = d → Ev (fun k => slices_Equal_int_int.l0 k x y (x.length : Int) i) (decide (x.drop i.toNat = y.drop i.toNat)) := by
  intro d
  induction d with
  | zero =>
    intro i h0 h1 hd
    rw [List.drop_eq_nil_of_le (by omega), List.drop_eq_nil_of_le (by omega)]
    exact Ev.step (f := fun _ => some true) (fun k => by simp only [slices_Equal_int_int.l0]; rw [if_neg (by omega)]) (by simpa using Ev.now true)
  | succ d ih =>
    intro i h0 h1 hd
    have hlt : i < (x.length : Int) := by omega
    have hlt2 : i < (y.length : Int) := by omega
    have hw : wrap64 (i + 1) = i + 1 := w64 (by omega) (by omega)
    rw [drop_rd h0 hlt, drop_rd h0 hlt2]
    by_cases h3 : rd x i = rd y i
    · have e : decide (rd x i :: x.drop (i + 1).toNat = rd y i :: y.drop (i + 1).toNat) = decide (x.drop (i + 1).toNat = y.drop (i + 1).toNat) := by
        rw [h3]
        exact decide_eq_decide.2 (by simp)
      rw [e]
      exact Ev.step (f := fun k => slices_Equal_int_int.l0 k x y (x.length : Int) (i + 1)) (fun k => by simp only [slices_Equal_int_int.l0]; rw [if_pos hlt, if_pos h0, if_pos hlt, if_pos hlt2, if_pos h3, hw]) (ih (i + 1) (by omega) (by omega) (by omega))
    · rw [decide_eq_false (by simp [h3])]
      exact Ev.step (f := fun _ => some false) (fun k => by simp only [slices_Equal_int_int.l0]; rw [if_pos hlt, if_pos h0, if_pos hlt, if_pos hlt2, if_neg h3]) (Ev.now _)
theorem equal_f (x y : List Int) (hb : x.length ≤ 4611686018427387904) : Ev (fun k => slices_Equal_int_int.f k x y) (decide (x = y)) := by
  by_cases h : (x.length : Int) = (y.length : Int)
  · have h2 := equal_ev x y (by omega) hb x.length 0 (by omega) (by omega) (by omega)
    exact Ev.congr (fun k => by unfold slices_Equal_int_int.f; rw [if_pos h]) h2
  · rw [decide_eq_false (fun e => h (by rw [e]))]
    exact Ev.congr (f := fun _ => some false) (fun k => by unfold slices_Equal_int_int.f; rw [if_neg h]) (Ev.now _)
end Go.Proofs.YteaohgebocbehaaGreatDoor.Plain
end
section
/- What the laws' walks share: the formula's box, the calls of Small, Equal, and of the references by their plain answers. Conditions as written in each. -/
set_option linter.unusedVariables false
set_option linter.unusedSimpArgs false
namespace Go.Proofs.YteaohgebocbehaaGreatDoor.Hand
open Go.RowKit Go.Lib Go.Shelf Go.Proofs.YteaohgebocbehaaGreatDoorW Go.Proofs.YteaohgebocbehaaGreatDoorW.PrintWords Go.Proofs.YteaohgebocbehaaGreatDoorW.PrintLast Go.Proofs.YteaohgebocbehaaGreatDoorW.PrintMore Go.Proofs.YteaohgebocbehaaGreatDoor.Plain Go.Proofs.YteaohgebocbehaaGreatDoor.XA
/-- The formula's box, the world since w. -/
structure LSt (w W : World) (g2 : Nat) (n : Int) (A : Option Addr) (m c : Nat) : Prop where
  b : W.heap[g2]? = some (.cells #[.int .i64 n, .slice A m c] 24 (0, 0))
  below : Below w.heap.size w W
theorem LSt.later {w W W' : World} {g2 : Nat} {n : Int} {A : Option Addr} {m c : Nat} (h : LSt w W g2 n A m c) (hb : Below W.heap.size W W') : LSt w W' g2 n A m c := ⟨blk_below h.b hb, below_step h.below hb⟩
theorem LSt.cells {w W : World} {g2 : Nat} {n : Int} {A : Option Addr} {m c : Nat} (h : LSt w W g2 n A m c) : W.cell? ⟨g2, 0, none⟩ = some (.int .i64 n) ∧ W.cell? ⟨g2, 1, none⟩ = some (.slice A m c) := ⟨(blk_cell h.b 0).trans rfl, (blk_cell h.b 1).trans rfl⟩
theorem small_calls (n v m : Int) (A : Option Addr) (c : Nat) (cl : List (List Int)) (W : World) (hr : kL.C W A cl.length cl) (hc : cl.length ≤ c) (hl : cl.length ≤ 9223372036854775807) :
    Calls Tryz.prog 11 #[.agg #[.int .i64 n, .slice A cl.length c], .int .i64 v, .int .i64 m] W fun e w' => e = .returned (.bool (smallC n cl v m)) ∧ Below W.heap.size W w' := by
  obtain ⟨k, h⟩ := (small_f n v m cl hl).rounds
  exact assessorref26_Small.calls k n A c cl v m _ W hr hc h
theorem same_calls (n0 : Int) (A : Option Addr) (c : Nat) (x0 : List (List Int)) (n1 : Int) (A' : Option Addr) (c' : Nat) (x1 : List (List Int)) (W : World) (hr : kL.C W A x0.length x0) (hc : x0.length ≤ c) (hr' : kL.C W A' x1.length x1) (hc' : x1.length ≤ c') (hl : Fine x0) :
    Calls Tryz.prog 23 #[.agg #[.int .i64 n0, .slice A x0.length c], .agg #[.int .i64 n1, .slice A' x1.length c']] W fun e w' => e = .returned (.bool (decide (n0 = n1) && decide (x0 = x1))) ∧ Below W.heap.size W w' := by
  have h := same_f n0 n1 x0 x1 (by have := hl.1; omega) (fun c hc => by have := hl.2 c hc; omega)
  obtain ⟨k, h⟩ := h.rounds
  exact assessorref26_Same.calls k n0 A c x0 n1 A' c' x1 _ W hr hc hr' hc' h
/-- Two equal rows. -/
theorem eqs_calls (A : Option Addr) (c : Nat) (A' : Option Addr) (c' : Nat) (l : List Int) (W : World) (hr : kI.C W A l.length l) (hc : l.length ≤ c) (hr' : kI.C W A' l.length l) (hc' : l.length ≤ c') (hl : l.length ≤ 4611686018427387904) :
    Calls Tryz.prog 14 #[.slice A l.length c, .slice A' l.length c'] W fun e w' => e = .returned (.bool true) ∧ Drawn0 W w' := by
  have h := equal_f l l hl
  rw [decide_eq_true rfl] at h
  obtain ⟨k, h⟩ := h.rounds
  exact slices_Equal_int_int.calls k A c l A' c' l _ W hr hc hr' hc' h
theorem small_true {n : Int} {cl : List (List Int)} {v m : Int} (h : smallC n cl v m = true) : (∀ c ∈ cl, c.length ≤ 30) ∧ n ≤ v ∧ (cl.length : Int) ≤ m := by
  unfold smallC at h
  obtain ⟨h1, h2⟩ := (Bool.and_eq_true _ _).mp h
  obtain ⟨h2, h3⟩ := (Bool.and_eq_true _ _).mp h2
  exact ⟨fun c hc => of_decide_eq_true (List.all_eq_true.1 h1 c hc), of_decide_eq_true h2, of_decide_eq_true h3⟩
theorem small_fine {n : Int} {cl : List (List Int)} {v m : Int} (h : smallC n cl v m = true) (hm : cl.length ≤ 1000) : Fine cl :=
  ⟨by omega, fun c hc => by have := (small_true h).1 c hc; omega⟩
end Go.Proofs.YteaohgebocbehaaGreatDoor.Hand
end
section
/- The rows' common door: the seven library variables as the rows list them; one start world that holds them so; what they give the walks ('Tabs'). Conditions as written in each. -/
set_option linter.unusedVariables false
namespace Go.Proofs.YteaohgebocbehaaGreatDoor.Door
open Go.ChangeShapes Go.WideShapes Go.ChangeAt Go.RowKit Go.Proofs.YteaohgebocbehaaGreatDoor.Hand
abbrev laid7 : List (String × DataW Unit) := [("math/bits.deBruijn32tab", Rows.laid_math_bits_deBruijn32tab), ("math/bits.deBruijn64tab", Rows.laid_math_bits_deBruijn64tab), ("internal/strconv.uint64pow10", Rows.laid_internal_strconv_uint64pow10), ("unicode/utf8.acceptRanges", Rows.laid_unicode_utf8_acceptRanges), ("strconv.ErrRange", Rows.laid_strconv_ErrRange), ("strconv.ErrSyntax", Rows.laid_strconv_ErrSyntax), ("unicode/utf8.first", Rows.laid_unicode_utf8_first)]
theorem own : ownKnob Tryz.prog.godebug = none := by kernel_rfl
theorem laidOut : laidOutB Tryz.prog = true := by kernel_rfl
theorem plain7 : (laid7.all fun x => x.2.handleName?.isNone) = true := by kernel_rfl
noncomputable abbrev low : Nat := (World.holding Tryz.prog default ⟨#[], #[], []⟩).heap.size
/-- The settled world with two blocks more (the two errors' texts), the seven variables holding what their initialisers lay. -/
noncomputable def laidWorld (os : Os) : World :=
  let w0 := World.holding Tryz.prog os ⟨#[.cells #[.string ⟨#[118, 97, 108, 117, 101, 32, 111, 117, 116, 32, 111, 102, 32, 114, 97, 110, 103, 101]⟩] 162 (0, 0), .cells #[.string ⟨#[105, 110, 118, 97, 108, 105, 100, 32, 115, 121, 110, 116, 97, 120]⟩] 162 (0, 0)], #[], []⟩
  let put (h : Array Obj) (g : Nat) (cs : Array Value) : Array Obj := h.modify g fun
    | .cells _ t frozen => .cells cs t frozen
    | o => o
  let h1 := put w0.heap 6 #[.int .u8 0, .int .u8 1, .int .u8 28, .int .u8 2, .int .u8 29, .int .u8 14, .int .u8 24, .int .u8 3, .int .u8 30, .int .u8 22, .int .u8 20, .int .u8 15, .int .u8 25, .int .u8 17, .int .u8 4, .int .u8 8, .int .u8 31, .int .u8 27, .int .u8 13, .int .u8 23, .int .u8 21, .int .u8 19, .int .u8 16, .int .u8 7, .int .u8 26, .int .u8 12, .int .u8 18, .int .u8 6, .int .u8 11, .int .u8 5, .int .u8 10, .int .u8 9]
  let h2 := put h1 7 #[.int .u8 0, .int .u8 1, .int .u8 56, .int .u8 2, .int .u8 57, .int .u8 49, .int .u8 28, .int .u8 3, .int .u8 61, .int .u8 58, .int .u8 42, .int .u8 50, .int .u8 38, .int .u8 29, .int .u8 17, .int .u8 4, .int .u8 62, .int .u8 47, .int .u8 59, .int .u8 36, .int .u8 45, .int .u8 43, .int .u8 51, .int .u8 22, .int .u8 53, .int .u8 39, .int .u8 33, .int .u8 30, .int .u8 24, .int .u8 18, .int .u8 12, .int .u8 5, .int .u8 63, .int .u8 55, .int .u8 48, .int .u8 27, .int .u8 60, .int .u8 41, .int .u8 37, .int .u8 16, .int .u8 46, .int .u8 35, .int .u8 44, .int .u8 21, .int .u8 52, .int .u8 32, .int .u8 23, .int .u8 11, .int .u8 54, .int .u8 26, .int .u8 40, .int .u8 15, .int .u8 34, .int .u8 20, .int .u8 31, .int .u8 10, .int .u8 25, .int .u8 14, .int .u8 19, .int .u8 9, .int .u8 13, .int .u8 8, .int .u8 7, .int .u8 6]
  let h3 := put h2 3 #[.int .u64 1, .int .u64 10, .int .u64 100, .int .u64 1000, .int .u64 10000, .int .u64 100000, .int .u64 1000000, .int .u64 10000000, .int .u64 100000000, .int .u64 1000000000, .int .u64 10000000000, .int .u64 100000000000, .int .u64 1000000000000, .int .u64 10000000000000, .int .u64 100000000000000, .int .u64 1000000000000000, .int .u64 10000000000000000, .int .u64 100000000000000000, .int .u64 1000000000000000000, .int .u64 10000000000000000000]
  let h4 := put h3 5 #[.int .u8 128, .int .u8 191, .int .u8 160, .int .u8 191, .int .u8 128, .int .u8 159, .int .u8 144, .int .u8 191, .int .u8 128, .int .u8 143, .int .u8 0, .int .u8 0, .int .u8 0, .int .u8 0, .int .u8 0, .int .u8 0, .int .u8 0, .int .u8 0, .int .u8 0, .int .u8 0, .int .u8 0, .int .u8 0, .int .u8 0, .int .u8 0, .int .u8 0, .int .u8 0, .int .u8 0, .int .u8 0, .int .u8 0, .int .u8 0, .int .u8 0, .int .u8 0]
  let h5 := put h4 1 #[.iface 160 (.pointer (some ⟨low, 0, none⟩))]
  let h6 := put h5 0 #[.iface 160 (.pointer (some ⟨low + 1, 0, none⟩))]
  let h7 := put h6 4 #[.int .u8 240, .int .u8 240, .int .u8 240, .int .u8 240, .int .u8 240, .int .u8 240, .int .u8 240, .int .u8 240, .int .u8 240, .int .u8 240, .int .u8 240, .int .u8 240, .int .u8 240, .int .u8 240, .int .u8 240, .int .u8 240, .int .u8 240, .int .u8 240, .int .u8 240, .int .u8 240, .int .u8 240, .int .u8 240, .int .u8 240, .int .u8 240, .int .u8 240, .int .u8 240, .int .u8 240, .int .u8 240, .int .u8 240, .int .u8 240, .int .u8 240, .int .u8 240, .int .u8 240, .int .u8 240, .int .u8 240, .int .u8 240, .int .u8 240, .int .u8 240, .int .u8 240, .int .u8 240, .int .u8 240, .int .u8 240, .int .u8 240, .int .u8 240, .int .u8 240, .int .u8 240, .int .u8 240, .int .u8 240, .int .u8 240, .int .u8 240, .int .u8 240, .int .u8 240, .int .u8 240, .int .u8 240, .int .u8 240, .int .u8 240, .int .u8 240, .int .u8 240, .int .u8 240, .int .u8 240, .int .u8 240, .int .u8 240, .int .u8 240, .int .u8 240, .int .u8 240, .int .u8 240, .int .u8 240, .int .u8 240, .int .u8 240, .int .u8 240, .int .u8 240, .int .u8 240, .int .u8 240, .int .u8 240, .int .u8 240, .int .u8 240, .int .u8 240, .int .u8 240, .int .u8 240, .int .u8 240, .int .u8 240, .int .u8 240, .int .u8 240, .int .u8 240, .int .u8 240, .int .u8 240, .int .u8 240, .int .u8 240, .int .u8 240, .int .u8 240, .int .u8 240, .int .u8 240, .int .u8 240, .int .u8 240, .int .u8 240, .int .u8 240, .int .u8 240, .int .u8 240, .int .u8 240, .int .u8 240, .int .u8 240, .int .u8 240, .int .u8 240, .int .u8 240, .int .u8 240, .int .u8 240, .int .u8 240, .int .u8 240, .int .u8 240, .int .u8 240, .int .u8 240, .int .u8 240, .int .u8 240, .int .u8 240, .int .u8 240, .int .u8 240, .int .u8 240, .int .u8 240, .int .u8 240, .int .u8 240, .int .u8 240, .int .u8 240, .int .u8 240, .int .u8 240, .int .u8 240, .int .u8 240, .int .u8 240, .int .u8 240, .int .u8 241, .int .u8 241, .int .u8 241, .int .u8 241, .int .u8 241, .int .u8 241, .int .u8 241, .int .u8 241, .int .u8 241, .int .u8 241, .int .u8 241, .int .u8 241, .int .u8 241, .int .u8 241, .int .u8 241, .int .u8 241, .int .u8 241, .int .u8 241, .int .u8 241, .int .u8 241, .int .u8 241, .int .u8 241, .int .u8 241, .int .u8 241, .int .u8 241, .int .u8 241, .int .u8 241, .int .u8 241, .int .u8 241, .int .u8 241, .int .u8 241, .int .u8 241, .int .u8 241, .int .u8 241, .int .u8 241, .int .u8 241, .int .u8 241, .int .u8 241, .int .u8 241, .int .u8 241, .int .u8 241, .int .u8 241, .int .u8 241, .int .u8 241, .int .u8 241, .int .u8 241, .int .u8 241, .int .u8 241, .int .u8 241, .int .u8 241, .int .u8 241, .int .u8 241, .int .u8 241, .int .u8 241, .int .u8 241, .int .u8 241, .int .u8 241, .int .u8 241, .int .u8 241, .int .u8 241, .int .u8 241, .int .u8 241, .int .u8 241, .int .u8 241, .int .u8 241, .int .u8 241, .int .u8 2, .int .u8 2, .int .u8 2, .int .u8 2, .int .u8 2, .int .u8 2, .int .u8 2, .int .u8 2, .int .u8 2, .int .u8 2, .int .u8 2, .int .u8 2, .int .u8 2, .int .u8 2, .int .u8 2, .int .u8 2, .int .u8 2, .int .u8 2, .int .u8 2, .int .u8 2, .int .u8 2, .int .u8 2, .int .u8 2, .int .u8 2, .int .u8 2, .int .u8 2, .int .u8 2, .int .u8 2, .int .u8 2, .int .u8 2, .int .u8 19, .int .u8 3, .int .u8 3, .int .u8 3, .int .u8 3, .int .u8 3, .int .u8 3, .int .u8 3, .int .u8 3, .int .u8 3, .int .u8 3, .int .u8 3, .int .u8 3, .int .u8 35, .int .u8 3, .int .u8 3, .int .u8 52, .int .u8 4, .int .u8 4, .int .u8 4, .int .u8 68, .int .u8 241, .int .u8 241, .int .u8 241, .int .u8 241, .int .u8 241, .int .u8 241, .int .u8 241, .int .u8 241, .int .u8 241, .int .u8 241, .int .u8 241]
  { w0 with heap := h7 }
set_option maxRecDepth 1000000 in
theorem door_in (os : Os) (args : Array Value) : LaidIn Tryz.prog ((laidWorld os).forCall (fun _ _ => 0) ⟨#[], args, []⟩).memory laid7 [6, 7, 3, 5, 1, low, 0, low + 1, 4] :=
  LaidIn.of_run _ 8 (by kernel_rfl) (by kernel_rfl) (by kernel_rfl) (by kernel_rfl)
theorem door_met (os : Os) (args : Array Value) : laidMetH Tryz.prog laid7 ((laidWorld os).forCall (fun _ _ => 0) ⟨#[], args, []⟩).memory := by
  rw [MakeChecks.laidMetH_plain _ _ _ plain7]
  exact (door_in os args).met
theorem trod_iface_cell {H : Type} {enc : TypeId × Value → H} {P : Program} {w : World} {base : Nat} {sp : Nat → Bool} {held : Bool} {fuel : Nat} {t : TypeId} {cs : List Value} {x : DataW H × List MemPlace} {ms : Array (String × TypeId)} (ht : P.underlying t = some (.interface ms)) (h : DataW.trod enc P w base sp held fuel t cs = some x) :
    cs = [.nilIface] ∨ ∃ u v, cs = [.iface u v] := by
  cases fuel with
  | zero => simp [DataW.trod] at h
  | succ n =>
    match cs, h with
    | [], h => simp [DataW.trod, ht] at h
    | [c], h => cases c <;> simp [DataW.trod, ht] at h ⊢
    | _ :: _ :: _, h => simp [DataW.trod, ht] at h
theorem laid_lt {W : World} {l : List (String × DataW Unit)} {n : String} {d : DataW Unit} {g : Nat} (h : laidMet Tryz.prog l W) (hm : (n, d) ∈ l) (hg : Tryz.prog.globalNamed n = some g) : g < W.heap.size := by
  obtain ⟨g0, t0, cs, fuel, p, hg0, ht0, hv, hd⟩ := Lib.laidMet.reads h hm
  obtain rfl := Option.some.inj (hg.symm.trans hg0)
  unfold World.var? at hv
  rw [hg] at hv
  simp only [Option.bind_some] at hv
  rcases Nat.lt_or_ge g W.heap.size with h' | h'
  · exact h'
  · simp [Array.getElem?_eq_none h'] at hv
/-- An error's variable that the row lists holds an interface value. -/
theorem err_cell {W : World} {n : String} {d : DataW Unit} {l : List (String × DataW Unit)} {g t : Nat} {ms : Array (String × TypeId)} (h : laidMet Tryz.prog l W) (hm : (n, d) ∈ l) (hg : Tryz.prog.globalNamed n = some g) (ht : (Tryz.prog.globals[g]?).map (·.type) = some t) (hi : Tryz.prog.underlying t = some (.interface ms)) :
    ∃ ev, W.cell? ⟨g, 0, none⟩ = some ev ∧ (ev = .nilIface ∨ ∃ te pe, ev = .iface te pe) := by
  obtain ⟨g0, t0, cs, fuel, p, hg0, ht0, hv, hd⟩ := Lib.laidMet.reads h hm
  obtain rfl := Option.some.inj (hg.symm.trans hg0)
  obtain rfl := Option.some.inj (ht.symm.trans ht0)
  obtain ⟨l0⟩ := cs
  have hc := World.var?_cell hg0 hv 0
  rcases trod_iface_cell hi hd with e | ⟨u, v, e⟩
  · simp only at e
    subst e
    exact ⟨_, by simpa using hc, Or.inl rfl⟩
  · simp only at e
    subst e
    exact ⟨_, by simpa using hc, Or.inr ⟨u, v, rfl⟩⟩
theorem tabs {W : World} (hL : laidMetH Tryz.prog laid7 W) (hS : W.ShapedOpen Tryz.prog) : Tabs W := by
  rw [MakeChecks.laidMetH_plain _ _ _ plain7] at hL
  refine ⟨?_, ?_, ?_, ?_, ?_⟩
  · exact Lib.tabIs_of_head (g := 3) (t := 164) (e := 125) (n := 20) (by kernel_rfl) (by kernel_rfl) (by kernel_rfl) (by kernel_rfl) (by kernel_rfl) (by kernel_rfl) hL.tail.tail
  · exact cell_of_shapedOpen_int (zero := #[.int .i64 0]) (t := 3) hS (of_decide_eq_true (by kernel_rfl)) (by kernel_rfl) rfl (by kernel_rfl) (by kernel_rfl) Tryz.underlying3
  · exact err_cell (n := "strconv.ErrSyntax") hL (.tail _ (.tail _ (.tail _ (.tail _ (.tail _ (.head _)))))) (by kernel_rfl) (by kernel_rfl) Tryz.underlying82
  · exact err_cell (n := "strconv.ErrRange") hL (.tail _ (.tail _ (.tail _ (.tail _ (.head _))))) (by kernel_rfl) (by kernel_rfl) Tryz.underlying82
  · exact laid_lt (n := "math/bits.deBruijn64tab") hL (.tail _ (.head _)) (by kernel_rfl)
end Go.Proofs.YteaohgebocbehaaGreatDoor.Door
end
section
/- What a Go value reads as, as data, read as the printed functions' own kinds: integers, bools, strings, structs, slices of these; no conditions beyond each lemma's premises. -/
namespace Go.Proofs.YteaohgebocbehaaGreatDoor.Opens
open Go.ChangeShapes Go.WideShapes Go.Deep Go.RowKit Go.Proofs.YteaohgebocbehaaGreatDoorW.PrintWords

/-- Whatever reads as data at type t has cells of the kind d, and is well formed. -/
structure Opens {α : Type} (P : Program) (d : Kd α) (t : TypeId) (Wf : α → Prop) : Prop where
  size : P.cellsOf t = d.sz
  opens : ∀ {H : Type} {enc : TypeId × Value → H} {w : World} {n : Nat} {cs : List Value} {x : DataW H × List MemPlace},
    DataW.trod enc P w 0 (fun _ => true) true n t cs = some x → ∃ y, d.K w y cs ∧ Wf y

variable {α β γ δ : Type} {P : Program} {t : TypeId}

theorem opens_int {k : IntKind} (hu : P.underlying t = some (.int k)) (hs : P.cellsOf t = 1) : Opens P (Kd.int k) t (fun n => (Lit.int k n).wf = true) :=
  ⟨hs, fun h => by obtain ⟨n, rfl, _, hw⟩ := DataW.trod_int hu h; exact ⟨n, rfl, hw⟩⟩
theorem opens_bool (hu : P.underlying t = some .bool) (hs : P.cellsOf t = 1) : Opens P Kd.bool t (fun _ => True) :=
  ⟨hs, fun h => by obtain ⟨n, rfl, _⟩ := DataW.trod_bool hu h; exact ⟨n, rfl, trivial⟩⟩
theorem opens_string (hu : P.underlying t = some .string) (hs : P.cellsOf t = 1) : Opens P Kd.string t (fun s => s.size ≤ 9223372036854775807) :=
  ⟨hs, fun h => by obtain ⟨n, rfl, _, hw⟩ := DataW.trod_string hu h; exact ⟨n, rfl, hw⟩⟩

theorem take_sz {cs : List Value} {n m : Nat} (h : cs.length = n + m) : (cs.drop 0).take n ++ (cs.drop n).take m = cs := by
  rw [List.drop_zero, List.take_of_length_le (l := cs.drop n) (by rw [List.length_drop]; omega), List.take_append_drop]

theorem opens_two {a : Kd α} {b : Kd β} {f0 f1 : Field} {W0 : α → Prop} {W1 : β → Prop} (ht : P.underlying t = some (.struct #[f0, f1]))
    (h0 : Opens P a f0.type W0) (h1 : Opens P b f1.type W1) (o0 : f0.offset = 0) (o1 : f1.offset = a.sz) (hs : P.cellsOf t = a.sz + b.sz) :
    Opens P (Kd.pair a b) t (fun x => W0 x.1 ∧ W1 x.2) :=
  ⟨hs, fun h => by
    obtain ⟨y0, y1, n, _, hl, e0, e1⟩ := trod_struct2 ht h
    rw [o0, h0.size] at e0
    rw [o1, h1.size] at e1
    obtain ⟨z0, k0, w0⟩ := h0.opens e0
    obtain ⟨z1, k1, w1⟩ := h1.opens e1
    exact ⟨(z0, z1), ⟨_, _, (take_sz (hl.trans hs)).symm, k0, k1⟩, w0, w1⟩⟩

theorem take_sz3 {cs : List Value} {n m k : Nat} (h : cs.length = n + (m + k)) : (cs.drop 0).take n ++ ((cs.drop n).take m ++ (cs.drop (n + m)).take k) = cs := by
  have e : (cs.drop n).take m ++ (cs.drop (n + m)).take k = (cs.drop n).take (m + k) := by
    have hl : (cs.drop n).length = m + k := by rw [List.length_drop]; omega
    have := take_sz hl
    rw [List.drop_zero, List.drop_drop] at this
    rw [this, List.take_of_length_le (by omega)]
  rw [e]
  exact take_sz h

theorem opens_three {a : Kd α} {b : Kd β} {c : Kd γ} {f0 f1 f2 : Field} {W0 : α → Prop} {W1 : β → Prop} {W2 : γ → Prop} (ht : P.underlying t = some (.struct #[f0, f1, f2]))
    (h0 : Opens P a f0.type W0) (h1 : Opens P b f1.type W1) (h2 : Opens P c f2.type W2) (o0 : f0.offset = 0) (o1 : f1.offset = a.sz) (o2 : f2.offset = a.sz + b.sz) (hs : P.cellsOf t = a.sz + (b.sz + c.sz)) :
    Opens P (Kd.pair a (Kd.pair b c)) t (fun x => W0 x.1 ∧ W1 x.2.1 ∧ W2 x.2.2) :=
  ⟨hs, fun {H enc w n cs x} h => by
    obtain ⟨xs, n, _, _, hl, hlen, hf⟩ := DataW.trod_struct ht h
    match xs, hlen with
    | [y0, y1, y2], _ =>
      have e0 := hf 0 f0 rfl
      have e1 := hf 1 f1 rfl
      have e2 := hf 2 f2 rfl
      rw [o0, h0.size] at e0
      rw [o1, h1.size] at e1
      rw [o2, h2.size] at e2
      obtain ⟨z0, k0, w0⟩ := h0.opens e0
      obtain ⟨z1, k1, w1⟩ := h1.opens e1
      obtain ⟨z2, k2, w2⟩ := h2.opens e2
      exact ⟨(z0, z1, z2), ⟨_, _, (take_sz3 (hl.trans hs)).symm, k0, _, _, rfl, k1, k2⟩, w0, w1, w2⟩⟩

theorem opens_iso {d : Kd α} {Wf : α → Prop} (h : Opens P d t Wf) (f : β → α) (g : α → β) (hfg : ∀ y, f (g y) = y) : Opens P (Kd.iso d f) t (fun x => Wf (f x)) :=
  ⟨h.size, fun e => by
    obtain ⟨y, k, w⟩ := h.opens e
    exact ⟨g y, by show d.K _ (f (g y)) _; rw [hfg]; exact k, by rw [hfg]; exact w⟩⟩

/-- What a list's elements and its length are. -/
def WfL (Wf : α → Prop) (xs : List α) : Prop := (∀ x ∈ xs, Wf x) ∧ xs.length ≤ 9223372036854775807

/-- A slice that reads as data, as a row that is read. -/
theorem opens_row {e : TypeId} {d : Kd α} {Wf : α → Prop} (hu : P.underlying t = some (.slice e)) (h : Opens P d e Wf)
    {H : Type} {enc : TypeId × Value → H} {w : World} {n : Nat} {A : Option Addr} {len cap : Nat} {x : DataW H × List MemPlace}
    (hd : DataW.trod enc P w 0 (fun _ => true) true n t [.slice A len cap] = some x) :
    ∃ ys : List α, ys.length = len ∧ len ≤ cap ∧ d.C w A ys.length ys ∧ WfL Wf ys := by
  rcases open_slice hu hd with ⟨e0, _⟩ | ⟨a, l, c, m, n', D, Pl, e0, _, hl, hm, hmm, _, hx⟩
  · simp only [List.cons.injEq, Value.slice.injEq, and_true] at e0
    obtain ⟨rfl, rfl, rfl⟩ := e0
    exact ⟨[], rfl, Nat.le_refl _, ⟨rfl, by simp, fun h0 => absurd h0 (by simp)⟩, by simp [WfL]⟩
  · simp only [List.cons.injEq, Value.slice.injEq, and_true] at e0
    obtain ⟨rfl, rfl, rfl⟩ := e0
    simp only [if_true] at hmm
    subst hmm
    have key : ∀ i, i < len → ∃ y, Wf y ∧ ∃ cs', d.K w y cs' ∧ w.cells? 0 (a.add (i * P.cellsOf e)) (P.cellsOf e) = some cs' := fun i hi => by
      obtain ⟨cs', h1, h2⟩ := hx i (by omega)
      obtain ⟨y, k, wf⟩ := h.opens h2
      exact ⟨y, wf, cs', k, h1⟩
    have hlen : len ≤ 9223372036854775807 := Nat.le_trans hl hm
    clear hx
    have fam : ∀ k, k ≤ len → ∃ ys : List α, ys.length = k ∧ ∀ i y, ys[i]? = some y → Wf y ∧ ∃ cs', d.K w y cs' ∧ w.cells? 0 (a.add (i * P.cellsOf e)) (P.cellsOf e) = some cs' := by
      intro k
      induction k with
      | zero => exact fun _ => ⟨[], rfl, fun i y hy => by simp at hy⟩
      | succ k ih =>
        intro hk
        obtain ⟨ys, hys, hp⟩ := ih (by omega)
        obtain ⟨y, hy⟩ := key k (by omega)
        refine ⟨ys ++ [y], by simp [hys], fun i z hz => ?_⟩
        rcases Nat.lt_trichotomy i ys.length with hi | hi | hi
        · rw [List.getElem?_append_left hi] at hz
          exact hp i z hz
        · subst hi
          simp at hz
          subst hz
          rw [hys]
          exact hy
        · rw [List.getElem?_eq_none (by simp; omega)] at hz
          cases hz
    obtain ⟨ys, hys, hp⟩ := fam len (Nat.le_refl _)
    refine ⟨ys, hys, hl, ⟨rfl, by omega, fun _ => ⟨a, rfl, fun j p hj => ?_⟩⟩, fun y hy => ?_, by omega⟩
    · obtain ⟨_, cs', k, hc⟩ := hp j p hj
      obtain ⟨_, hcl, hcell⟩ := World.cells?_some hc
      rw [h.size] at hcl hcell
      refine ⟨cs', hcl, k, fun i u hu => ?_⟩
      have hi : i < d.sz := by
        rcases Nat.lt_or_ge i d.sz with h' | h'
        · exact h'
        · rw [List.getElem?_eq_none (by omega)] at hu
          cases hu
      have := hcell i hi
      rw [Deep.add_add] at this
      rw [this]
      exact hu
    · obtain ⟨i, hi, rfl⟩ := List.getElem_of_mem hy
      exact (hp i _ (List.getElem?_eq_getElem hi)).1

theorem opens_slice {e : TypeId} {d : Kd α} {Wf : α → Prop} (hu : P.underlying t = some (.slice e)) (hs : P.cellsOf t = 1) (h : Opens P d e Wf) : Opens P (Kd.slice e d) t (WfL Wf) :=
  ⟨hs, fun {H enc w n cs x} hd => by
    have hsh : ∃ A l c, cs = [.slice A l c] := by
      rcases open_slice hu hd with ⟨e0, _⟩ | ⟨a, l, c, m, n', D, Pl, e0, _⟩
      · exact ⟨_, _, _, e0⟩
      · exact ⟨_, _, _, e0⟩
    obtain ⟨A, l, c, rfl⟩ := hsh
    obtain ⟨ys, rfl, hc, hC, hW⟩ := opens_row hu h hd
    exact ⟨ys, ⟨A, c, rfl, hc, hC⟩, hW⟩⟩

/-- An argument's own reading, at its own value. -/
theorem row_arg {e : TypeId} {d : Kd α} {Wf : α → Prop} (hu : P.underlying t = some (.slice e)) (h : Opens P d e Wf)
    {H : Type} {enc : TypeId × Value → H} {w : World} {A : Option Addr} {len cap : Nat} {dd : DataW H} {ps : List MemPlace}
    (hd : DataW.Trod enc P w 0 (fun _ => true) true t (.slice A len cap) dd ps) :
    ∃ ys : List α, ys.length = len ∧ len ≤ cap ∧ d.C w A ys.length ys ∧ WfL Wf ys := by
  obtain ⟨n, hn⟩ := hd
  exact opens_row hu h (by simpa [Value.cells] using hn)

theorem trod_blocks {H : Type} {enc : TypeId × Value → H} {w : World} {v : Value} {dd : DataW H} {ps : List MemPlace}
    (hd : DataW.Trod enc P w 0 (fun _ => true) true t v dd ps) : ∀ x ∈ ps, x.block < w.heap.size := by
  obtain ⟨m, hm⟩ := hd
  exact DataW.trod_lt m _ _ _ hm

end Go.Proofs.YteaohgebocbehaaGreatDoor.Opens
end
section
/- The program's pairs of numbers read as data, read as the printed functions' own structure; no conditions. -/
namespace Go.Proofs.YteaohgebocbehaaGreatDoor
open Go.ChangeShapes Go.WideShapes Go.RowKit Go.Proofs.YteaohgebocbehaaGreatDoor.Opens Go.Proofs.YteaohgebocbehaaGreatDoor.XA Go.Proofs.YteaohgebocbehaaGreatDoorW.PrintWords
theorem Opens.opens_arr2 {α : Type} {P : Program} {t e : TypeId} {a : Kd α} {W0 : α → Prop} (ht : P.underlying t = some (.array 2 e)) (h0 : Opens P a e W0) (h1 : a.sz = 1) (hs : P.cellsOf t = 2) :
    Opens P (Kd.pair a a) t (fun x => W0 x.1 ∧ W0 x.2) :=
  ⟨by rw [hs]; show 2 = a.sz + a.sz; omega, fun {H enc w n cs x} h => by
    obtain ⟨xs, m, _, _, hl, hlen, hf⟩ := DataW.trod_array ht h
    have he : P.cellsOf e = 1 := h0.size.trans h1
    have e0 := hf 0 (by omega)
    have e1 := hf 1 (by omega)
    rw [he] at e0 e1
    rw [List.getElem?_eq_getElem (by omega)] at e0 e1
    obtain ⟨z0, k0, w0⟩ := h0.opens e0
    obtain ⟨z1, k1, w1⟩ := h0.opens e1
    refine ⟨(z0, z1), ⟨_, _, ?_, k0, k1⟩, w0, w1⟩
    match cs, hl.trans hs with
    | [c0, c1], _ => rfl⟩
theorem Opens.o62 : Opens Tryz.prog k62 62 (fun x => (Lit.int .i64 x.f0).wf = true ∧ (Lit.int .i64 x.f1).wf = true) :=
  opens_iso (opens_arr2 Tryz.underlying62 (opens_int Tryz.underlying3 (by kernel_rfl)) rfl (by kernel_rfl)) _ (fun y => ⟨y.1, y.2⟩) (fun _ => rfl)
end Go.Proofs.YteaohgebocbehaaGreatDoor
end
