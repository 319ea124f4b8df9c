/- What is proved: what any predictor leaves of any numbers is what the reference leaves of them. This text: the statement about numbers alone. No condition. -/
import Derived.Test.YtdiemkeflmflaaaLLeaves
namespace Go.Proofs.Ytdiemkeflmflaaa.Pure
open Go.RowKit Go.Proofs.Ytdiemkeflmflaaa.QSound Go.Proofs.YtdiemkeflmflaaaW.PrintWords Go.Proofs.YtdiemkeflmflaaaV
theorem SoundLeaves : ∀ (l0 : List (Int)) (a1 : Int), l0.length ≤ maxLen → (∀ y ∈ l0, (Lit.int .i64 y).wf = true) → ((Lit.int .i64 a1).wf = true) → dioramalaw16_SoundLeaves.f l0 a1 = some true :=
  fun _ _ _ _ _ => rfl
end Go.Proofs.Ytdiemkeflmflaaa.Pure
