/- What is proved: what any warm-up and any numbers that are left are of is the reference's. This text: the statement about numbers alone. No condition. -/
import Derived.Test.YtdiemkeflmflaaaPEqi
import Derived.Test.YtdiemkeflmflaaaQSoundx17
namespace Go.Proofs.Ytdiemkeflmflaaa.Pure
open Go.RowKit Go.Proofs.Ytdiemkeflmflaaa.QSound Go.Proofs.YtdiemkeflmflaaaW.PrintWords Go.Proofs.YtdiemkeflmflaaaV Go.Proofs.Ytdiemkeflmflaaa.PureI
theorem restF_len (l u : List Int) (o : Int) (_h : l.length + u.length ≤ 4611686018427387904) : (restF l u o).1.length ≤ 9223372036854775807 := by
  unfold restF
  split
  · simp
  · split
    · simp
    · split
      · simp
      · unfold restR
        split
        · simp only [restI_len]; omega
        · simp
theorem SoundRestores : dioramalaw16_SoundRestores.Pure := by
  intro l u o _ h1 _ _ h2 _ _
  have hw : wrap64 ((l.length : Int) + (u.length : Int)) = (l.length : Int) + (u.length : Int) := by unfold wrap64; omega
  by_cases hl : (l.length : Int) + (u.length : Int) > 20000
  · exact ⟨0, by unfold dioramalaw16_SoundRestores.f; rw [hw, if_pos hl]; rfl⟩
  · refine Ev.rounds (r := true) ?_
    unfold dioramalaw16_SoundRestores.f sound_Restore.f dioramaref16_Restore.f
    rw [hw]
    simp only [if_neg hl, if_pos (show l.length + u.length ≤ 4611686018427387904 by omega), Option.bind_some]
    refine Ev.bind (eqi_ev (restF_len l u o (by omega))) ?_
    simpa [dioramalaw16_awake.f] using Ev.now true
end Go.Proofs.Ytdiemkeflmflaaa.Pure
