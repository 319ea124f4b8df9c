/- A lemma file: the comparing of bytes. No condition. -/
import Derived.Test.YtmbhafgnmdfjhaaPEvo
import Derived.Test.YtmbhafgnmdfjhaaQTabx17
namespace Go.Proofs.Ytmbhafgnmdfjhaa.PureTI
open Go.RowKit Go.Proofs.Ytmbhafgnmdfjhaa.QTab Go.Proofs.YtmbhafgnmdfjhaaW.PrintWords Go.Proofs.YtmbhafgnmdfjhaaV
theorem eqi_l0 : ∀ (t u pre pre' : List Int), pre.length = pre'.length → (pre ++ t).length ≤ 9223372036854775807 → t.length = u.length → Ev (fun k => dioramaref00_EqInts.l0 k (pre ++ t) (pre' ++ u) (pre.length : Int)) (decide (t = u))
  | [], [], pre, pre', _, _, _ => Ev.step (f := fun _ => some (decide (([] : List Int) = []))) (fun k => by simp only [dioramaref00_EqInts.l0]; rw [if_neg (by simp)]; rfl) (Ev.now _)
  | a :: t, b :: u, pre, pre', h, hl, hu => by
    have hl2 := hl
    simp only [List.length_append, List.length_cons] at hl2 hu
    by_cases e : a = b
    · subst e
      have ih := eqi_l0 t u (pre ++ [a]) (pre' ++ [a]) (by simp [h]) (by simpa using hl) (by omega)
      have e1 : pre ++ [a] ++ t = pre ++ a :: t := by simp
      have e1' : pre' ++ [a] ++ u = pre' ++ a :: u := by simp
      have e2 : ((pre ++ [a]).length : Int) = wrap64 ((pre.length : Int) + 1) := by
        simp only [List.length_append, List.length_cons, List.length_nil]
        rw [w64 (by omega) (by omega)]; omega
      have e3 : decide (t = u) = decide (a :: t = a :: u) := by simp
      rw [e1, e1', e2, e3] at ih
      refine Ev.step (fun k => ?_) ih
      simp only [dioramaref00_EqInts.l0]
      rw [if_pos (by simp; omega), if_pos (by omega), if_pos (by simp; omega), if_pos (by simp [rd, h])]
    · refine Ev.step (f := fun _ => some (decide (a :: t = b :: u))) (fun k => ?_) (Ev.now _)
      simp only [dioramaref00_EqInts.l0]
      rw [if_pos (by simp; omega), if_pos (by omega), if_pos (by simp; omega), if_neg (by simp [rd, h, e])]
      simp [e]
  | [], _ :: _, _, _, _, _, h => by simp at h
  | _ :: _, [], _, _, _, _, h => by simp at h
theorem eqi_ev {l u : List Int} (hl : l.length ≤ 9223372036854775807) : Ev (fun k => dioramaref00_EqInts.f k l u) (decide (l = u)) := by
  unfold dioramaref00_EqInts.f
  by_cases h : l.length = u.length
  · simp only [if_pos (show (l.length : Int) = (u.length : Int) by omega)]
    exact eqi_l0 l u [] [] rfl (by simpa using hl) h
  · simp only [if_neg (show ¬ (l.length : Int) = (u.length : Int) by omega)]
    have : decide (l = u) = false := decide_eq_false (fun e => h (by rw [e]))
    rw [this]
    exact Ev.now _
end Go.Proofs.Ytmbhafgnmdfjhaa.PureTI
