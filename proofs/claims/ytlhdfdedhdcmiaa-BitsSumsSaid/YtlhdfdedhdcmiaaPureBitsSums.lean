/- What is proved: the sum of any bytes is the chapter's. This text: the statement about numbers and lists alone. No condition. -/
import Derived.Test.YtlhdfdedhdcmiaaPSum
import Derived.Test.YtlhdfdedhdcmiaaVAwake01
import Derived.Test.YtlhdfdedhdcmiaaQBitsx11
namespace Go.Proofs.Ytlhdfdedhdcmiaa.Pure
open Go.RowKit Go.Proofs.Ytlhdfdedhdcmiaa.QBits Go.Proofs.YtlhdfdedhdcmiaaW.PrintWords Go.Proofs.YtlhdfdedhdcmiaaV
theorem BitsSums : ∀ (l0 : List (Int)), l0.length ≤ maxLen → (∀ y ∈ l0, (Lit.int .u8 y).wf = true) → ∃ k, dioramalaw01_BitsSums.f k l0 = some true := by
  intro l hl hb
  have hl' : l.length ≤ 9223372036854775807 := by simpa only [maxLen] using hl
  apply Ev.rounds (g := fun k => dioramalaw01_BitsSums.f k l)
  unfold dioramalaw01_BitsSums.f
  by_cases h : (l.length : Int) > 4000
  · simp only [if_pos h]; exact Ev.now _
  · simp only [if_neg h]
    refine Ev.bind (sum_ev hl' (fun y hy => u8b (hb y hy))) (Ev.bind (rsum_ev hl' (fun y hy => u8b (hb y hy))) ?_)
    simp only [if_pos]
    refine Ev.bind (sum_ev (l := [100, 105, 111, 114, 97, 109, 97]) (by decide) (by decide)) ?_
    have hd : sumS [100, 105, 111, 114, 97, 109, 97] ≠ 0 := by decide +kernel
    simp only [if_neg hd]
    exact Ev.bind awake_ev (Ev.now _)
end Go.Proofs.Ytlhdfdedhdcmiaa.Pure
