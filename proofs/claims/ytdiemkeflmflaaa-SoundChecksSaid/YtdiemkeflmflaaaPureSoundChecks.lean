/- What is proved: whether any sound is valid, whether options go along with it, and its digest, are the reference's. This text: the statement about numbers alone. No condition. -/
import Derived.Test.YtdiemkeflmflaaaPCheck
import Derived.Test.YtdiemkeflmflaaaQSoundx35
namespace Go.Proofs.Ytdiemkeflmflaaa.Pure
open Go.RowKit Go.Proofs.Ytdiemkeflmflaaa.QSound Go.Proofs.YtdiemkeflmflaaaW.PrintWords Go.Proofs.YtdiemkeflmflaaaV Go.Proofs.Ytdiemkeflmflaaa.PureI
theorem checks_ev {b : Int} {l : List (List Int)} (o s p : Int) (hl : l.length ≤ 9223372036854775807) (hx : ∀ x ∈ l, x.length ≤ 9223372036854775807) : Ev (fun k => dioramalaw16_SoundChecks.f k b l o s p) true := by
  unfold dioramalaw16_SoundChecks.f
  obtain ⟨r, hr⟩ := ev_long (b := b) hl
  refine Ev.bind hr ?_
  cases r with
  | true => simpa [dioramalaw16_awake.f] using Ev.now true
  | false =>
    simp only [Bool.false_eq_true, if_false]
    refine Ev.bind ev_dig (Ev.bind (ev_rdig hx) ?_)
    simp only [sound_Check.f, Option.bind_some]
    refine Ev.bind (ev_rcheck hx) ?_
    simp only [if_true, opt_p, Option.bind_some]
    refine Ev.bind (ev_ropt hx o s p) ?_
    simpa [dioramalaw16_awake.f] using Ev.now true
theorem SoundChecks : ∀ (a0_0 : Int) (l0_1 : List (List (Int))) (a1_0 : Int) (a1_1 : Int) (a1_2 : Int), ((Lit.int .i64 a0_0).wf = true) → l0_1.length ≤ maxLen → (∀ y ∈ l0_1, y.length ≤ maxLen ∧ ∀ x0 ∈ y, (Lit.int .i64 x0).wf = true) → ((Lit.int .i64 a1_0).wf = true) → ((Lit.int .i64 a1_1).wf = true) → ((Lit.int .i64 a1_2).wf = true) → ∃ k, dioramalaw16_SoundChecks.f k a0_0 l0_1 a1_0 a1_1 a1_2 = some true := by
  intro b l o s p _ hl hx _ _ _
  exact Ev.rounds (checks_ev o s p hl (fun x h => (hx x h).1))
end Go.Proofs.Ytdiemkeflmflaaa.Pure
