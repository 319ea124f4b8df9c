/- A lemma file: a copy of bytes is the bytes. No condition. -/
import Derived.Test.YtaebgjdaoloceaaVPlain
import Derived.Test.YtaebgjdaoloceaaQBmpBx4
namespace Go.Proofs.Ytaebgjdaoloceaa.Pure
open Go.RowKit Go.Proofs.Ytaebgjdaoloceaa.QBmpB Go.Proofs.YtaebgjdaoloceaaW.PrintWords Go.Proofs.YtaebgjdaoloceaaV
theorem copyb_l0 : ∀ (t pre : List Int), (pre ++ t).length < 140737488355328 → Ev (fun k => dioramaref00_CopyBytes.l0 k (pre ++ t) pre (pre.length : Int)) (pre ++ t)
  | [], pre, _ => Ev.step (f := fun _ => some (pre ++ [])) (fun k => by simp only [dioramaref00_CopyBytes.l0]; rw [if_neg (by simp)]; simp) (Ev.now _)
  | c :: t, pre, hl => by
    have ih := copyb_l0 t (pre ++ [c]) (by simpa using hl)
    have e1 : pre ++ [c] ++ t = pre ++ c :: t := by simp
    simp only [List.length_append, List.length_cons] at hl
    have e2 : ((pre ++ [c]).length : Int) = wrap64 ((pre.length : Int) + 1) := by
      simp only [List.length_append, List.length_cons, List.length_nil]
      rw [w64 (by omega) (by omega)]; omega
    rw [e1, e2] at ih
    refine Ev.step (fun k => ?_) ih
    simp only [dioramaref00_CopyBytes.l0]
    have er : rd (pre ++ c :: t) (pre.length : Int) = c := by simp [rd]
    rw [if_pos (by simp; omega), if_pos (by omega), if_pos (by omega), er]
theorem copyb_ev {l : List Int} (hl : l.length < 140737488355328) : Ev (fun k => dioramaref00_CopyBytes.f k l) l := by
  unfold dioramaref00_CopyBytes.f
  simp only [if_pos (show 0 ≤ (l.length : Int) by omega), Int.toNat_natCast]
  simp only [if_pos (show l.length ≤ 281474976710656 by omega)]
  exact copyb_l0 l [] (by simpa using hl)
end Go.Proofs.Ytaebgjdaoloceaa.Pure
