/- A lemma file: the comparing of bytes. No condition. -/
import Derived.Test.YtaebgjdaoloceaaVPlain
import Derived.Test.YtaebgjdaoloceaaQBmpPx6
namespace Go.Proofs.Ytaebgjdaoloceaa.PureI
open Go.RowKit Go.Proofs.Ytaebgjdaoloceaa.QBmpP Go.Proofs.YtaebgjdaoloceaaW.PrintWords Go.Proofs.YtaebgjdaoloceaaV
theorem eqs_l0 : ∀ (t u pre pre' : List Int), pre.length = pre'.length → (pre ++ t).length ≤ 9223372036854775807 → t.length = u.length → Ev (fun k => slices_Equal_int_int.l0 k (pre ++ t) (pre' ++ u) ((pre ++ t).length : Int) (pre.length : Int)) (decide (t = u))
  | [], [], pre, pre', _, _, _ => Ev.step (f := fun _ => some (decide (([] : List Int) = []))) (fun k => by simp only [slices_Equal_int_int.l0]; rw [if_neg (by simp)]; rfl) (Ev.now _)
  | a :: t, b :: u, pre, pre', h, hl, hu => by
    have hl2 := hl
    simp only [List.length_append, List.length_cons] at hl2 hu
    by_cases e : a = b
    · subst e
      have ih := eqs_l0 t u (pre ++ [a]) (pre' ++ [a]) (by simp [h]) (by simpa using hl) (by omega)
      have e1 : pre ++ [a] ++ t = pre ++ a :: t := by simp
      have e1' : pre' ++ [a] ++ u = pre' ++ a :: u := by simp
      have e2 : ((pre ++ [a]).length : Int) = wrap64 ((pre.length : Int) + 1) := by
        simp only [List.length_append, List.length_cons, List.length_nil]
        rw [w64 (by omega) (by omega)]; omega
      have e3 : decide (t = u) = decide (a :: t = a :: u) := by simp
      rw [e1, e1', e2, e3] at ih
      refine Ev.step (fun k => ?_) ih
      simp only [slices_Equal_int_int.l0]
      rw [if_pos (by simp; omega), if_pos (by omega), if_pos (by simp; omega), if_pos (by simp; omega), if_pos (by simp [rd, h])]
    · refine Ev.step (f := fun _ => some (decide (a :: t = b :: u))) (fun k => ?_) (Ev.now _)
      simp only [slices_Equal_int_int.l0]
      rw [if_pos (by simp; omega), if_pos (by omega), if_pos (by simp; omega), if_pos (by simp; omega), if_neg (by simp [rd, h, e])]
      simp [e]
  | [], _ :: _, _, _, _, _, h => by simp at h
  | _ :: _, [], _, _, _, _, h => by simp at h
theorem eqs_ev {l u : List Int} (hl : l.length ≤ 9223372036854775807) : Ev (fun k => slices_Equal_int_int.f k l u) (decide (l = u)) := by
  unfold slices_Equal_int_int.f
  by_cases h : l.length = u.length
  · simp only [if_pos (show (l.length : Int) = (u.length : Int) by omega)]
    exact eqs_l0 l u [] [] rfl (by simpa using hl) h
  · simp only [if_neg (show ¬ (l.length : Int) = (u.length : Int) by omega)]
    have : decide (l = u) = false := decide_eq_false (fun e => h (by rw [e]))
    rw [this]
    exact Ev.now _
end Go.Proofs.Ytaebgjdaoloceaa.PureI
