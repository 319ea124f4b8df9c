/- What is proved: behind each of any calls a writer has the errors, the number of bits and the bytes of the chapter. This text: the statement about numbers and lists alone. No condition. -/
import Derived.Test.YtlhdfdedhdcmiaaVAwake01
import Derived.Test.YtlhdfdedhdcmiaaLB
namespace Go.Proofs.Ytlhdfdedhdcmiaa.Pure
open Go.RowKit Go.Proofs.Ytlhdfdedhdcmiaa.QBits Go.Proofs.YtlhdfdedhdcmiaaW.PrintWords Go.Proofs.YtlhdfdedhdcmiaaV
theorem BitsWrites : ∀ (l0 : List (S56)), l0.length ≤ maxLen → (∀ x0 ∈ l0, ((Lit.int .i64 x0.f0).wf = true) ∧ ((Lit.int .i64 x0.f1).wf = true) ∧ ((Lit.int .i64 x0.f2).wf = true)) → ∃ k, dioramalaw01_BitsWrites.f k l0 = some true := by
  intro l _ hm
  apply Ev.rounds (g := fun k => dioramalaw01_BitsWrites.f k l)
  unfold dioramalaw01_BitsWrites.f
  by_cases h : (l.length : Int) > 200
  · simp only [if_pos h]; exact Ev.now _
  · simp only [if_neg h]
    have h2 : opsOk l = true := List.all_eq_true.mpr (fun o ho => by
      have h3 := hm o ho
      have h4 := (i64b h3.2.1).2
      have h5 := (i64b h3.2.2).2
      simp [h4, h5])
    simp only [if_pos h2]
    exact awake_ev
end Go.Proofs.Ytlhdfdedhdcmiaa.Pure
