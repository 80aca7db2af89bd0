/- Spending an allowance on latenesses, as a plain function on lists; what the program returns is that; the list has at most 30 elements. -/
import Derived.Test.YtbehhijmcnoeeaaPlainMain
import Derived.Test.YtbehhijmcnoeeaaXAx14
namespace Go.Proofs.Ytbehhijmcnoeeaa.Plain
open Go.RowKit Go.Proofs.Ytbehhijmcnoeeaa.XA Go.Proofs.YtbehhijmcnoeeaaW.PrintWords Go.Proofs.YtbehhijmcnoeeaaW.PrintLast Go.Proofs.YtbehhijmcnoeeaaW.PrintMore

/-- A number as a tick. -/
def cl (x : Int) : Int := mn (mx x 0) 1099511627776
theorem cl_bd (x : Int) : 0 ≤ cl x ∧ cl x ≤ 1099511627776 := by
  unfold cl mn mx; split <;> split <;> omega
/-- What is left, in order. -/
def spend : Int → List Int → List Int
  | _, [] => []
  | r, x :: l => (cl x - mn (cl x) r) :: spend (r - mn (cl x) r) l
theorem spend_length (l : List Int) : ∀ r, (spend r l).length = l.length := by
  induction l with
  | nil => intro r; rfl
  | cons x l ih => intro r; simp [spend, ih]
theorem mn_bd {t r : Int} (ht : 0 ≤ t) (hr : 0 ≤ r) : 0 ≤ mn t r ∧ mn t r ≤ t ∧ mn t r ≤ r := by
  unfold mn; split <;> omega
theorem drop_rd (l : List Int) (i : Nat) (h : i < l.length) : l.drop i = rd l i :: l.drop (i + 1) := by
  rw [List.drop_eq_getElem_cons h]
  simp [rd, List.getD, List.getElem?_eq_getElem h]

theorem ev_spend_l (l : List Int) (hl : l.length ≤ 30) (m : Nat) : ∀ (i : Nat) (r : Int) (acc : List Int), l.length - i = m → i ≤ l.length → acc.length ≤ i → 0 ≤ r → r ≤ 1099511627776 →
    Ev (fun k => deadlines_Spend.l0 k r acc l (l.length : Int) (i : Int)) (acc ++ spend r (l.drop i)) := by
  induction m with
  | zero =>
    intro i r acc hm hi ha h0 h1
    have e : i = l.length := by omega
    rw [e, List.drop_length]
    exact Ev.step (f := fun _ => some acc) (fun k => by rw [deadlines_Spend.l0, if_neg (by omega)]) (by simp only [spend, List.append_nil]; exact Ev.now _)
  | succ m ih =>
    intro i r acc hm hi ha h0 h1
    have hlt : i < l.length := by omega
    have hc := cl_bd (rd l i)
    have hm1 := mn_bd hc.1 h0
    refine Ev.step (fun k => by rw [deadlines_Spend.l0]) (ev_if_pos (by omega) (ev_if_pos (by omega) (ev_if_pos (by omega) ?_)))
    rw [show deadlines_Spend_1.f (rd l i) = some (cl (rd l i)) from rfl]
    refine ev_some_bind (ev_if_pos (by omega) ?_)
    rw [drop_rd l i hlt, spend, w64 (n := r - _) (by omega), w64 (n := cl (rd l i) - _) (by omega), show wrap64 ((i : Int) + 1) = ((i + 1 : Nat) : Int) from by rw [w64 (by omega)]; omega]
    have := ih (i + 1) (r - mn (cl (rd l i)) r) (acc ++ [cl (rd l i) - mn (cl (rd l i)) r]) (by omega) (by omega) (by simp; omega) (by omega) (by omega)
    rw [List.append_assoc] at this
    exact this
theorem ev_spend (l : List Int) (hl : l.length ≤ 30) (a : Int) : Ev (fun k => deadlines_Spend.f k l a) (spend (cl a) l) := by
  unfold deadlines_Spend.f
  rw [show deadlines_Spend_1.f a = some (cl a) from rfl]
  refine ev_some_bind ?_
  have hc := cl_bd a
  exact ev_spend_l l hl l.length 0 (cl a) [] (by omega) (by omega) (by simp) hc.1 hc.2

end Go.Proofs.Ytbehhijmcnoeeaa.Plain
