/- A lemma file: small facts on both sides' tests. No condition. -/
import Derived.Test.YtaebgjdaoloceaaPRuns
import Derived.Test.YtaebgjdaoloceaaQBmpRx2
import Derived.Test.YtaebgjdaoloceaaQBmpRx4
namespace Go.Proofs.Ytaebgjdaoloceaa.PureB
open Go.RowKit Go.Proofs.Ytaebgjdaoloceaa.QBmpR Go.Proofs.YtaebgjdaoloceaaW.PrintWords Go.Proofs.YtaebgjdaoloceaaV
theorem rd_at {x q t : List Int} {a : Int} (h : q ++ a :: t = x) : rd x (q.length : Int) = a := by
  subst h; simp [rd]
theorem rd_zero {t : List Int} {a : Int} : rd (a :: t) 0 = a := id rfl
theorem drop_one {t : List Int} {a : Int} : (a :: t).drop 1 = t := id rfl
theorem in_r (v a b : Int) : dioramaref19_in.f v a b = some (decide (a ≤ v) && decide (v ≤ b)) := by
  unfold dioramaref19_in.f
  by_cases h : v ≥ a
  · rw [if_pos h, decide_eq_true h, Bool.true_and]
  · rw [if_neg h, decide_eq_false h, Bool.false_and]
theorem within_p (v a b : Int) : bitmap_within.f v a b = some (decide (a ≤ v) && decide (v ≤ b)) := by
  unfold bitmap_within.f
  by_cases h : v ≥ a
  · rw [if_pos h, decide_eq_true h, Bool.true_and]
  · rw [if_neg h, decide_eq_false h, Bool.false_and]
end Go.Proofs.Ytaebgjdaoloceaa.PureB
