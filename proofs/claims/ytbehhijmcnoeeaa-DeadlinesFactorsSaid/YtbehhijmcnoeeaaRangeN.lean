/- A range over a function value whose rounds come one by one from a known sequence: what the loop owes and what the iterator owes, round by round; no conditions beyond the premises. -/
import Derived.RangeFuncNested
import Derived.RangeFuncBound
import Derived.RangeFuncCalls
import Derived.RangeFuncLeaves
import Derived.Shelf.Abstract
import Derived.Shelf.RegionOpen
import Derived.WalkKit
import Derived.OwnWalkIn
import Derived.TacticsInMore
import Derived.LoopNIn
import Derived.LoopIn
namespace Go.Proofs.Ytbehhijmcnoeeaa.RangeN
open Go.RowKit Go.Shelf

variable {F : Fence} {n : Nat} {P : Program}

/-- Of the two blocks that the loop lays for itself (B, B + 1): they lie as they lay. -/
def Keep2 (B : Nat) (W W' : World) : Prop := ∀ k, B ≤ k → k < B + 2 → W'.heap[k]? = W.heap[k]?
theorem Keep2.refl (B : Nat) (W : World) : Keep2 B W W := fun _ _ _ => rfl
theorem Keep2.trans {B : Nat} {W1 W2 W3 : World} (h : Keep2 B W1 W2) (k : Keep2 B W2 W3) : Keep2 B W1 W3 := fun i h1 h2 => (k i h1 h2).trans (h i h1 h2)
theorem Keep2.below {B N : Nat} {W W' : World} (hb : Below N W W') (hN : B + 2 ≤ N) : Keep2 B W W' := fun k _ h2 => hb.block k (by omega)
theorem Keep2.setCell {B : Nat} (W : World) (p : Addr) (v : Value) (hp : p.block < B ∨ B + 2 ≤ p.block) : Keep2 B W (W.setCell p v) := fun k h1 h2 => Below.heap_setCell W p v k (by omega)
theorem Keep2.alloc {B : Nat} (W : World) (o : Obj) (h : B + 2 ≤ W.heap.size) : Keep2 B W (W.alloc o) := fun k _ h2 => Below.heap_alloc W o k (by omega)

/-- New blocks may come, and what lies from B on and holds no cells may turn: I bides it. -/
def Bides (B : Nat) (I : Nat → World → Prop) : Prop :=
  ∀ k W W' row, I k W → W.grownBy W' row → (∀ r, row = some r → B ≤ r ∧ ∃ o : Obj, W.heap[r]? = some o ∧ o.isCells = false) → I k W'
theorem Bides.alloc {B : Nat} {I : Nat → World → Prop} (h : Bides B I) {k : Nat} {W : World} (o : Obj) (hs : I k W) : I k (W.alloc o) :=
  h k W _ none hs (World.grownBy_alloc W o none) (fun r e => by cases e)
theorem Bides.putObj {B : Nat} {I : Nat → World → Prop} (h : Bides B I) {k : Nat} {W : World} {l : Nat} {o : Obj} (o' : Obj) (hs : I k W) (hB : B ≤ l) (hl : W.heap[l]? = some o) (ho : o.isCells = false) : I k (W.putObj l o') :=
  h k W _ (some l) hs (grownBy_putObj' W l o') (fun r e => by cases e; exact ⟨hB, o, hl, ho⟩)

/-- The iterator's contract: it hands over encs 0, encs 1, .., encs (N - 1), as long as a round says 'on'. Kq: its own steps; Kp: what the rounds keep for it. -/
def SeqN (F : Fence) (n : Nat) (P : Program) (g : Nat) (lb : Array Value) (encs : Nat → Array Value) (Kp : World → World → Prop) (Kq : Nat → World → World → Prop) (N : Nat) (w : World) : Prop :=
  ∀ (l : Nat) (J Jx : Nat → World → Prop) (W : World), Below w.heap.size w W → (∀ k A B, Kq W.heap.size A B → J k A → J k B) → (∀ k A B, Kq W.heap.size A B → Jx k A → Jx k B) →
    (∀ k W1, J k W1 → k < N → YieldAt F (n - 1) P l (encs k) W1 fun e W' =>
      (e = .returned (.bool true) ∧ J (k + 1) W' ∧ Kp W1 W') ∨ (e = .returned (.bool false) ∧ Jx (k + 1) W')) →
    J 0 W →
    CallsIn F n P g (#[.func (.yield l) #[] #[]] ++ lb) W fun e W' => (∃ v, e = .returned v) ∧ (J N W' ∨ ∃ k, k ≤ N ∧ Jx k W')

/-- How the body of round k may be left. -/
def bodyEnds (B : Nat) (Kp : World → World → Prop) (I : Nat → World → Prop) (Ix : Code → Nat → World → Prop) (k : Nat) (W : World) : Exit → Act → World → Prop
  | .normal, _, W' => Keep2 B W W' ∧ Kp W W' ∧ I (k + 1) W'
  | .ret, _, W' => Keep2 B W W' ∧ Ix .ret (k + 1) W'
  | .exit id, _, W' => Keep2 B W W' ∧ Ix (.exit id) (k + 1) W'
  | .goto t, _, W' => Keep2 B W W' ∧ Ix (.goto t) (k + 1) W'
  | .panic _, _, _ => False
  | .outgrown, _, _ => False

theorem rangeN {g : Operand} {ps : Array Tmp} {assign body : Code} {Q : Exit → Act → World → Prop} {a : Act} {w : World}
    (hro : F.round = none) (h1 : 1 ≤ n) {gf : Nat} {lb : Array Value} (hg : a.eval g = .func (.func gf) #[] lb) (hFg : F.fn gf) (eg : ∀ args w, (callFunc gf args).run P w = .ok (.enter gf args) w)
    {encs : Nat → Array Value} {Kp : World → World → Prop} {Kq : Nat → World → World → Prop} {N : Nat} {w0 : World} (hseq : SeqN F (n - 1) P gf lb encs Kp Kq N w0) (hb0 : Below w0.heap.size w0 w)
    (hKt : ∀ {A B C : World}, Kp A B → Kp B C → Kp A C) (hKb : ∀ (W : World) (l : Nat) (o o' : Obj), w.heap.size ≤ l → W.heap[l]? = some o → o.isCells = false → Kp W (W.putObj l o'))
    (hKq : ∀ A B, w.heap.size + 2 ≤ A.heap.size → Kq (w.heap.size + 2) A B → Keep2 w.heap.size A B) (hps : ∀ k, (encs k).size = ps.size)
    (I : Nat → World → Prop) (Ix : Code → Nat → World → Prop) (hIq : ∀ k A B, w.heap.size + 2 ≤ A.heap.size → Kq (w.heap.size + 2) A B → I k A → I k B) (hIxq : ∀ c k A B, w.heap.size + 2 ≤ A.heap.size → Kq (w.heap.size + 2) A B → Ix c k A → Ix c k B)
    (hI : Bides w.heap.size I) (hIx : ∀ c, Bides w.heap.size (Ix c)) (h0 : I 0 w) (Ax : Nat → Act → World → Prop) (hAx : ∀ a, Bides w.heap.size (fun k W => Ax k a W))
    (hassign : ∀ (l : Nat) (k : Nat) (W : World) (K : Act → World → Prop), I k W → k < N → w.heap.size + 2 ≤ W.heap.size → (∀ a' W', Ax k a' W' → Keep2 w.heap.size W W' → Kp W W' → K a' W') →
      assign.wpIn (F.inRound l) (n - 1 - 1) P (Exit.then K (fun _ _ _ => False)) { tmps := (ps.zip (encs k)).foldl (fun t (p, v) => t.setIfInBounds p v) a.tmps, defers := [] } W)
    (hbody : ∀ (l : Nat) (k : Nat) (a' : Act) (W : World), Ax k a' W → k < N → w.heap.size + 2 ≤ W.heap.size → body.wpIn (F.inRound l) (n - 1 - 1) P (bodyEnds w.heap.size Kp I Ix k W) a' W)
    (hdone : ∀ (D : Nat) (W : World), w.heap.size ≤ D → I N W → W.heap[D]? = some (.deferred (some [])) → Q .normal { a with defers := { target := .collected D, args := #[] } :: a.defers } W)
    (hstop : ∀ (D : Nat) (c : Code) (k : Nat) (W : World), w.heap.size ≤ D → k ≤ N → Ix c k W → W.heap[D]? = some (.deferred (some [])) → c.wpIn F n P Q { a with defers := { target := .collected D, args := #[] } :: a.defers } W) :
    (Code.rangeFunc g ps assign body).wpIn F n P Q a w := by
  refine wpIn_rangeFunc ?_
  intro fn hfn
  rw [hro]
  obtain ⟨rec, hrec⟩ : ∃ rec : LoopState → Option Code → Loop, rec = fun st pe => { state := st, pending := pe, fn, tmps := a.tmps, params := ps, assign, body, defers := w.heap.size } := ⟨_, rfl⟩
  obtain ⟨W1, hW1⟩ : ∃ W1, (w.alloc (.deferred (some []))).alloc (.loop (rec .ready none)) = W1 := ⟨_, rfl⟩
  have hS1 : W1.heap.size = w.heap.size + 2 := by rw [← hW1]; simp
  have hL1 : W1.heap[w.heap.size + 1]? = some (.loop (rec .ready none)) := by
    rw [← hW1]; have := World.alloc_heap_new (w.alloc (.deferred (some []))) (.loop (rec .ready none)); rwa [World.size_alloc] at this
  have hK1 : W1.heap[w.heap.size]? = some (.deferred (some [])) := by
    rw [← hW1]; exact (Below.heap_alloc _ _ _ (by simp)).trans (World.alloc_heap_new w _)
  have hI1 : I 0 W1 := by rw [← hW1]; exact hI.alloc _ (hI.alloc _ h0)
  have hb1 : Below w0.heap.size w0 W1 := by
    rw [← hW1]; exact hb0.trans ((((Below.refl _ w).alloc (Nat.le_refl _) _).alloc (by simp) _).mono hb0.size)
  refine ⟨w.heap.size + 1, [{ target := .collected w.heap.size, args := #[] }], W1, { target := .fn (.func gf) lb, args := #[.func (.yield (w.heap.size + 1)) #[] #[]] }, W1, gf,
    #[.func (.yield (w.heap.size + 1)) #[] #[]] ++ lb, W1, ?_, ?_, ?_, ?_, fun _ => h1, ?_⟩
  · rw [← hW1, hrec]; exact run_enterLoop_outer _ _ _ _ _
  · simp only [resolve, hg]
    simp [go_sem]
  · intro f' hf'; simp [Target.leads] at hf'; subst hf'; exact hFg
  · simp [invoke, go_sem, eg]
  · refine (hseq (w.heap.size + 1)
      (fun k W => I k W ∧ W.heap[w.heap.size + 1]? = some (.loop (rec .ready none)) ∧ W.heap[w.heap.size]? = some (.deferred (some [])))
      (fun k W => ∃ c, Ix c k W ∧ W.heap[w.heap.size + 1]? = some (.loop (rec .done (some c))) ∧ W.heap[w.heap.size]? = some (.deferred (some [])))
      W1 hb1 (fun k A B hq hs => ?_) (fun k A B hq hs => ?_) ?_ ⟨hI1, hL1, hK1⟩).mono ?_
    · rw [hS1] at hq
      have hz : w.heap.size + 2 ≤ A.heap.size := (Array.getElem?_eq_some_iff.1 hs.2.1).1
      exact ⟨hIq k A B hz hq hs.1, (hKq A B hz hq _ (by omega) (by omega)).trans hs.2.1, (hKq A B hz hq _ (by omega) (by omega)).trans hs.2.2⟩
    · rw [hS1] at hq
      obtain ⟨c, hc, hl, hk⟩ := hs
      have hz : w.heap.size + 2 ≤ A.heap.size := (Array.getElem?_eq_some_iff.1 hl).1
      exact ⟨c, hIxq c k A B hz hq hc, (hKq A B hz hq _ (by omega) (by omega)).trans hl, (hKq A B hz hq _ (by omega) (by omega)).trans hk⟩
    · rintro k W ⟨hi, hl, hk⟩ hlen
      have hlt : w.heap.size + 1 < W.heap.size := (Array.getElem?_eq_some_iff.1 hl).1
      have hy := run_yield (P := P) (args := encs k) hl (by rw [hrec]; exact hps k)
      rw [hrec] at hy
      refine ⟨fn, _, assign, body, hy, roundIn_of_wpIn hfn (hassign _ k W _ hi hlen (by omega) (fun a' V hax hkV hpV => ?_))⟩
      have hlV := (hkV _ (by omega) (by omega)).trans hl
      have hkVd := (hkV _ (by omega) (by omega)).trans hk
      have hltV : w.heap.size + 1 < V.heap.size := (Array.getElem?_eq_some_iff.1 hlV).1
      refine ⟨_, run_beginRound hlV (by rw [hrec]), ?_⟩
      have hl2 : (V.putObj (w.heap.size + 1) (.loop { rec .ready none with state := .busy })).heap[w.heap.size + 1]? = some (.loop { rec .ready none with state := .busy }) := World.putObj_heap_same hltV
      have hk2 : (V.putObj (w.heap.size + 1) (.loop { rec .ready none with state := .busy })).heap[w.heap.size]? = some (.deferred (some [])) := (World.putObj_heap_other (by omega)).trans hkVd
      have hw2 : Kp W (V.putObj (w.heap.size + 1) (.loop { rec .ready none with state := .busy })) := hKt hpV (hKb _ _ _ _ (by omega) hlV rfl)
      refine wpIn_mono (hbody _ k a' _ ((hAx a').putObj _ hax (by omega) hlV rfl) hlen (by simp; omega)) ?_
      have fin : ∀ (jump : Option Code) (W3 : World), Keep2 w.heap.size (V.putObj (w.heap.size + 1) (.loop { rec .ready none with state := .busy })) W3 →
          (Instr.endRound (w.heap.size + 1) jump).run P W3 = .ok (.bool jump.isNone) (W3.putObj (w.heap.size + 1) (.loop (rec (if jump.isNone then .ready else .done) jump))) ∧
          W3.heap[w.heap.size + 1]? = some (.loop { rec .ready none with state := .busy }) ∧
          (W3.putObj (w.heap.size + 1) (.loop (rec (if jump.isNone then .ready else .done) jump))).heap[w.heap.size + 1]? = some (.loop (rec (if jump.isNone then .ready else .done) jump)) ∧
          (W3.putObj (w.heap.size + 1) (.loop (rec (if jump.isNone then .ready else .done) jump))).heap[w.heap.size]? = some (.deferred (some [])) := fun jump W3 hk3 => by
        have hl3 := (hk3 _ (by omega) (by omega)).trans hl2
        have := run_endRound (P := P) jump hl3
        rw [hrec] at this ⊢
        exact ⟨this, by rw [hrec] at hl3; exact hl3, World.putObj_heap_same (Array.getElem?_eq_some_iff.1 hl3).1, (World.putObj_heap_other (by omega)).trans ((hk3 _ (by omega) (by omega)).trans hk2)⟩
      rintro e a3 W3 hp
      cases e with
      | normal =>
        obtain ⟨hk3, hkp3, hi3⟩ := hp
        obtain ⟨hr, hl3, hl4, hk4⟩ := fin none W3 hk3
        exact ⟨_, _, hr, .inl ⟨rfl, ⟨hI.putObj _ hi3 (by omega) hl3 rfl, hl4, hk4⟩, hKt (hKt hw2 hkp3) (hKb _ _ _ _ (by omega) hl3 rfl)⟩⟩
      | ret =>
        obtain ⟨hk3, hi3⟩ := hp
        obtain ⟨hr, hl3, hl4, hk4⟩ := fin (some .ret) W3 hk3
        exact ⟨_, _, hr, .inr ⟨rfl, .ret, (hIx _).putObj _ hi3 (by omega) hl3 rfl, hl4, hk4⟩⟩
      | exit id =>
        obtain ⟨hk3, hi3⟩ := hp
        obtain ⟨hr, hl3, hl4, hk4⟩ := fin (some (.exit id)) W3 hk3
        exact ⟨_, _, hr, .inr ⟨rfl, .exit id, (hIx _).putObj _ hi3 (by omega) hl3 rfl, hl4, hk4⟩⟩
      | goto t =>
        obtain ⟨hk3, hi3⟩ := hp
        obtain ⟨hr, hl3, hl4, hk4⟩ := fin (some (.goto t)) W3 hk3
        exact ⟨_, _, hr, .inr ⟨rfl, .goto t, (hIx _).putObj _ hi3 (by omega) hl3 rfl, hl4, hk4⟩⟩
      | panic ch => exact hp.elim
      | outgrown => exact hp.elim
    · rintro e W2 ⟨⟨v, rfl⟩, (⟨hi, hl, hk⟩ | ⟨k, hkN, c, hi, hl, hk⟩)⟩
      · exact ⟨none, _, by have := run_endLoop (P := P) hl (by rw [hrec]; simp); rw [hrec] at this; exact this, hdone _ _ (by omega) (hI.putObj _ hi (by omega) hl rfl) ((World.putObj_heap_other (by omega)).trans hk)⟩
      · exact ⟨some c, _, by have := run_endLoop (P := P) hl (by rw [hrec]; simp); rw [hrec] at this; exact this, hstop _ c k _ (by omega) hkN ((hIx c).putObj _ hi (by omega) hl rfl) ((World.putObj_heap_other (by omega)).trans hk)⟩

end Go.Proofs.Ytbehhijmcnoeeaa.RangeN
