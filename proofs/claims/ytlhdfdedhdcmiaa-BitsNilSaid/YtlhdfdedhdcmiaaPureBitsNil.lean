/- What is proved: a writer and a reader that are not there refuse everything, and have nothing. This text: the statement about numbers alone. No condition. -/
import Derived.Test.YtlhdfdedhdcmiaaVAwake01
import Derived.Test.YtlhdfdedhdcmiaaQBitsx77
namespace Go.Proofs.Ytlhdfdedhdcmiaa.Pure
open Go.RowKit Go.Proofs.Ytlhdfdedhdcmiaa.QBits Go.Proofs.YtlhdfdedhdcmiaaW.PrintWords Go.Proofs.YtlhdfdedhdcmiaaV
theorem BitsNil : ∀ (a0_0 : Int) (a0_1 : Int) (a0_2 : Int), ((Lit.int .i64 a0_0).wf = true) → ((Lit.int .i64 a0_1).wf = true) → ((Lit.int .i64 a0_2).wf = true) → ∃ k, dioramalaw01_BitsNil.f k a0_0 a0_1 a0_2 = some true :=
  fun _ _ _ _ _ _ => ⟨20, awake_ok⟩
end Go.Proofs.Ytlhdfdedhdcmiaa.Pure
