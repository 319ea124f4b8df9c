/- What is proved: the best k for any numbers is the reference's. This text: the statement about numbers alone. No condition. -/
import Derived.Test.YtdiemkeflmflaaaPRice
import Derived.Test.YtdiemkeflmflaaaQSoundx21
namespace Go.Proofs.Ytdiemkeflmflaaa.Pure
open Go.RowKit Go.Proofs.Ytdiemkeflmflaaa.QSound Go.Proofs.YtdiemkeflmflaaaW.PrintWords Go.Proofs.YtdiemkeflmflaaaV Go.Proofs.Ytdiemkeflmflaaa.PureI
theorem SoundRice : ∀ (l0 : List (Int)), l0.length ≤ maxLen → (∀ y ∈ l0, (Lit.int .i64 y).wf = true) → ∃ k, dioramalaw16_SoundRice.f k l0 = some true := by
  intro l _ _
  by_cases hl : (l.length : Int) > 5000
  · exact ⟨0, by unfold dioramalaw16_SoundRice.f; rw [if_pos hl]; rfl⟩
  · refine Ev.rounds (r := true) ?_
    unfold dioramalaw16_SoundRice.f
    simp only [if_neg hl]
    refine Ev.bind (ev_rice_p (by omega)) (Ev.bind (ev_rice_r (by omega)) ?_)
    simp only [if_true]
    exact Ev.now true
end Go.Proofs.Ytdiemkeflmflaaa.Pure
