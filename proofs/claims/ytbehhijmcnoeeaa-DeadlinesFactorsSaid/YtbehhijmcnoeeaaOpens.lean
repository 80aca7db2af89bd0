/- What a Go value reads as, as data, read as the printed functions' own kinds: integers, bools, strings, structs, slices of these; no conditions beyond each lemma's premises. -/
import Derived.Test.YtbehhijmcnoeeaaWWords
import Derived.ChangeArms
import Derived.ChangeSame
import Derived.Deep.Slices
import Derived.ChangeOld
namespace Go.Proofs.Ytbehhijmcnoeeaa.Opens
open Go.ChangeShapes Go.WideShapes Go.Deep Go.RowKit Go.Proofs.YtbehhijmcnoeeaaW.PrintWords

/-- Whatever reads as data at type t has cells of the kind d, and is well formed. -/
structure Opens {α : Type} (P : Program) (d : Kd α) (t : TypeId) (Wf : α → Prop) : Prop where
  size : P.cellsOf t = d.sz
  opens : ∀ {H : Type} {enc : TypeId × Value → H} {w : World} {n : Nat} {cs : List Value} {x : DataW H × List MemPlace},
    DataW.trod enc P w 0 (fun _ => true) true n t cs = some x → ∃ y, d.K w y cs ∧ Wf y

variable {α β γ δ : Type} {P : Program} {t : TypeId}

theorem opens_int {k : IntKind} (hu : P.underlying t = some (.int k)) (hs : P.cellsOf t = 1) : Opens P (Kd.int k) t (fun n => (Lit.int k n).wf = true) :=
  ⟨hs, fun h => by obtain ⟨n, rfl, _, hw⟩ := DataW.trod_int hu h; exact ⟨n, rfl, hw⟩⟩
theorem opens_bool (hu : P.underlying t = some .bool) (hs : P.cellsOf t = 1) : Opens P Kd.bool t (fun _ => True) :=
  ⟨hs, fun h => by obtain ⟨n, rfl, _⟩ := DataW.trod_bool hu h; exact ⟨n, rfl, trivial⟩⟩
theorem opens_string (hu : P.underlying t = some .string) (hs : P.cellsOf t = 1) : Opens P Kd.string t (fun s => s.size ≤ 9223372036854775807) :=
  ⟨hs, fun h => by obtain ⟨n, rfl, _, hw⟩ := DataW.trod_string hu h; exact ⟨n, rfl, hw⟩⟩

theorem take_sz {cs : List Value} {n m : Nat} (h : cs.length = n + m) : (cs.drop 0).take n ++ (cs.drop n).take m = cs := by
  rw [List.drop_zero, List.take_of_length_le (l := cs.drop n) (by rw [List.length_drop]; omega), List.take_append_drop]

theorem opens_two {a : Kd α} {b : Kd β} {f0 f1 : Field} {W0 : α → Prop} {W1 : β → Prop} (ht : P.underlying t = some (.struct #[f0, f1]))
    (h0 : Opens P a f0.type W0) (h1 : Opens P b f1.type W1) (o0 : f0.offset = 0) (o1 : f1.offset = a.sz) (hs : P.cellsOf t = a.sz + b.sz) :
    Opens P (Kd.pair a b) t (fun x => W0 x.1 ∧ W1 x.2) :=
  ⟨hs, fun h => by
    obtain ⟨y0, y1, n, _, hl, e0, e1⟩ := trod_struct2 ht h
    rw [o0, h0.size] at e0
    rw [o1, h1.size] at e1
    obtain ⟨z0, k0, w0⟩ := h0.opens e0
    obtain ⟨z1, k1, w1⟩ := h1.opens e1
    exact ⟨(z0, z1), ⟨_, _, (take_sz (hl.trans hs)).symm, k0, k1⟩, w0, w1⟩⟩

theorem take_sz3 {cs : List Value} {n m k : Nat} (h : cs.length = n + (m + k)) : (cs.drop 0).take n ++ ((cs.drop n).take m ++ (cs.drop (n + m)).take k) = cs := by
  have e : (cs.drop n).take m ++ (cs.drop (n + m)).take k = (cs.drop n).take (m + k) := by
    have hl : (cs.drop n).length = m + k := by rw [List.length_drop]; omega
    have := take_sz hl
    rw [List.drop_zero, List.drop_drop] at this
    rw [this, List.take_of_length_le (by omega)]
  rw [e]
  exact take_sz h

theorem opens_three {a : Kd α} {b : Kd β} {c : Kd γ} {f0 f1 f2 : Field} {W0 : α → Prop} {W1 : β → Prop} {W2 : γ → Prop} (ht : P.underlying t = some (.struct #[f0, f1, f2]))
    (h0 : Opens P a f0.type W0) (h1 : Opens P b f1.type W1) (h2 : Opens P c f2.type W2) (o0 : f0.offset = 0) (o1 : f1.offset = a.sz) (o2 : f2.offset = a.sz + b.sz) (hs : P.cellsOf t = a.sz + (b.sz + c.sz)) :
    Opens P (Kd.pair a (Kd.pair b c)) t (fun x => W0 x.1 ∧ W1 x.2.1 ∧ W2 x.2.2) :=
  ⟨hs, fun {H enc w n cs x} h => by
    obtain ⟨xs, n, _, _, hl, hlen, hf⟩ := DataW.trod_struct ht h
    match xs, hlen with
    | [y0, y1, y2], _ =>
      have e0 := hf 0 f0 rfl
      have e1 := hf 1 f1 rfl
      have e2 := hf 2 f2 rfl
      rw [o0, h0.size] at e0
      rw [o1, h1.size] at e1
      rw [o2, h2.size] at e2
      obtain ⟨z0, k0, w0⟩ := h0.opens e0
      obtain ⟨z1, k1, w1⟩ := h1.opens e1
      obtain ⟨z2, k2, w2⟩ := h2.opens e2
      exact ⟨(z0, z1, z2), ⟨_, _, (take_sz3 (hl.trans hs)).symm, k0, _, _, rfl, k1, k2⟩, w0, w1, w2⟩⟩

theorem opens_iso {d : Kd α} {Wf : α → Prop} (h : Opens P d t Wf) (f : β → α) (g : α → β) (hfg : ∀ y, f (g y) = y) : Opens P (Kd.iso d f) t (fun x => Wf (f x)) :=
  ⟨h.size, fun e => by
    obtain ⟨y, k, w⟩ := h.opens e
    exact ⟨g y, by show d.K _ (f (g y)) _; rw [hfg]; exact k, by rw [hfg]; exact w⟩⟩

/-- What a list's elements and its length are. -/
def WfL (Wf : α → Prop) (xs : List α) : Prop := (∀ x ∈ xs, Wf x) ∧ xs.length ≤ 9223372036854775807

/-- A slice that reads as data, as a row that is read. -/
theorem opens_row {e : TypeId} {d : Kd α} {Wf : α → Prop} (hu : P.underlying t = some (.slice e)) (h : Opens P d e Wf)
    {H : Type} {enc : TypeId × Value → H} {w : World} {n : Nat} {A : Option Addr} {len cap : Nat} {x : DataW H × List MemPlace}
    (hd : DataW.trod enc P w 0 (fun _ => true) true n t [.slice A len cap] = some x) :
    ∃ ys : List α, ys.length = len ∧ len ≤ cap ∧ d.C w A ys.length ys ∧ WfL Wf ys := by
  rcases open_slice hu hd with ⟨e0, _⟩ | ⟨a, l, c, m, n', D, Pl, e0, _, hl, hm, hmm, _, hx⟩
  · simp only [List.cons.injEq, Value.slice.injEq, and_true] at e0
    obtain ⟨rfl, rfl, rfl⟩ := e0
    exact ⟨[], rfl, Nat.le_refl _, ⟨rfl, by simp, fun h0 => absurd h0 (by simp)⟩, by simp [WfL]⟩
  · simp only [List.cons.injEq, Value.slice.injEq, and_true] at e0
    obtain ⟨rfl, rfl, rfl⟩ := e0
    simp only [if_true] at hmm
    subst hmm
    have key : ∀ i, i < len → ∃ y, Wf y ∧ ∃ cs', d.K w y cs' ∧ w.cells? 0 (a.add (i * P.cellsOf e)) (P.cellsOf e) = some cs' := fun i hi => by
      obtain ⟨cs', h1, h2⟩ := hx i (by omega)
      obtain ⟨y, k, wf⟩ := h.opens h2
      exact ⟨y, wf, cs', k, h1⟩
    have hlen : len ≤ 9223372036854775807 := Nat.le_trans hl hm
    clear hx
    have fam : ∀ k, k ≤ len → ∃ ys : List α, ys.length = k ∧ ∀ i y, ys[i]? = some y → Wf y ∧ ∃ cs', d.K w y cs' ∧ w.cells? 0 (a.add (i * P.cellsOf e)) (P.cellsOf e) = some cs' := by
      intro k
      induction k with
      | zero => exact fun _ => ⟨[], rfl, fun i y hy => by simp at hy⟩
      | succ k ih =>
        intro hk
        obtain ⟨ys, hys, hp⟩ := ih (by omega)
        obtain ⟨y, hy⟩ := key k (by omega)
        refine ⟨ys ++ [y], by simp [hys], fun i z hz => ?_⟩
        rcases Nat.lt_trichotomy i ys.length with hi | hi | hi
        · rw [List.getElem?_append_left hi] at hz
          exact hp i z hz
        · subst hi
          simp at hz
          subst hz
          rw [hys]
          exact hy
        · rw [List.getElem?_eq_none (by simp; omega)] at hz
          cases hz
    obtain ⟨ys, hys, hp⟩ := fam len (Nat.le_refl _)
    refine ⟨ys, hys, hl, ⟨rfl, by omega, fun _ => ⟨a, rfl, fun j p hj => ?_⟩⟩, fun y hy => ?_, by omega⟩
    · obtain ⟨_, cs', k, hc⟩ := hp j p hj
      obtain ⟨_, hcl, hcell⟩ := World.cells?_some hc
      rw [h.size] at hcl hcell
      refine ⟨cs', hcl, k, fun i u hu => ?_⟩
      have hi : i < d.sz := by
        rcases Nat.lt_or_ge i d.sz with h' | h'
        · exact h'
        · rw [List.getElem?_eq_none (by omega)] at hu
          cases hu
      have := hcell i hi
      rw [Deep.add_add] at this
      rw [this]
      exact hu
    · obtain ⟨i, hi, rfl⟩ := List.getElem_of_mem hy
      exact (hp i _ (List.getElem?_eq_getElem hi)).1

theorem opens_slice {e : TypeId} {d : Kd α} {Wf : α → Prop} (hu : P.underlying t = some (.slice e)) (hs : P.cellsOf t = 1) (h : Opens P d e Wf) : Opens P (Kd.slice e d) t (WfL Wf) :=
  ⟨hs, fun {H enc w n cs x} hd => by
    have hsh : ∃ A l c, cs = [.slice A l c] := by
      rcases open_slice hu hd with ⟨e0, _⟩ | ⟨a, l, c, m, n', D, Pl, e0, _⟩
      · exact ⟨_, _, _, e0⟩
      · exact ⟨_, _, _, e0⟩
    obtain ⟨A, l, c, rfl⟩ := hsh
    obtain ⟨ys, rfl, hc, hC, hW⟩ := opens_row hu h hd
    exact ⟨ys, ⟨A, c, rfl, hc, hC⟩, hW⟩⟩

/-- An argument's own reading, at its own value. -/
theorem row_arg {e : TypeId} {d : Kd α} {Wf : α → Prop} (hu : P.underlying t = some (.slice e)) (h : Opens P d e Wf)
    {H : Type} {enc : TypeId × Value → H} {w : World} {A : Option Addr} {len cap : Nat} {dd : DataW H} {ps : List MemPlace}
    (hd : DataW.Trod enc P w 0 (fun _ => true) true t (.slice A len cap) dd ps) :
    ∃ ys : List α, ys.length = len ∧ len ≤ cap ∧ d.C w A ys.length ys ∧ WfL Wf ys := by
  obtain ⟨n, hn⟩ := hd
  exact opens_row hu h (by simpa [Value.cells] using hn)

theorem trod_blocks {H : Type} {enc : TypeId × Value → H} {w : World} {v : Value} {dd : DataW H} {ps : List MemPlace}
    (hd : DataW.Trod enc P w 0 (fun _ => true) true t v dd ps) : ∀ x ∈ ps, x.block < w.heap.size := by
  obtain ⟨m, hm⟩ := hd
  exact DataW.trod_lt m _ _ _ hm

end Go.Proofs.Ytbehhijmcnoeeaa.Opens
