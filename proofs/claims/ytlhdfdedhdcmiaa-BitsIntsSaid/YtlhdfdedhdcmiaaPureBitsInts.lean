/- What is proved: the number of any n bytes at any place, and the bytes of any number, are the chapter's, with their errors. This text: the statement about numbers and lists alone. No condition. -/
import Derived.Test.YtlhdfdedhdcmiaaPInt
import Derived.Test.YtlhdfdedhdcmiaaVAwake01
import Derived.Test.YtlhdfdedhdcmiaaQBitsx27
namespace Go.Proofs.Ytlhdfdedhdcmiaa.Pure
open Go.RowKit Go.Proofs.Ytlhdfdedhdcmiaa.QBits Go.Proofs.YtlhdfdedhdcmiaaW.PrintWords Go.Proofs.YtlhdfdedhdcmiaaV
theorem BitsInts : ∀ (l0_0 : List (Int)) (a0_1 : Int) (a0_2 : Int) (a0_3 : Int), l0_0.length ≤ maxLen → (∀ y ∈ l0_0, (Lit.int .u8 y).wf = true) → ((Lit.int .i64 a0_1).wf = true) → ((Lit.int .i64 a0_2).wf = true) → ((Lit.int .i64 a0_3).wf = true) → ∃ k, dioramalaw01_BitsInts.f k l0_0 a0_1 a0_2 a0_3 = some true := by
  intro l a n v hl hb _ _ hv
  have hl' : l.length ≤ 9223372036854775807 := by simpa only [maxLen] using hl
  have hb' : ∀ y ∈ l, 0 ≤ y ∧ y ≤ 255 := fun y hy => u8b (hb y hy)
  apply Ev.rounds (g := fun k => dioramalaw01_BitsInts.f k l a n v)
  unfold dioramalaw01_BitsInts.f
  by_cases h : (l.length : Int) > 4000
  · simp only [if_pos h]; exact Ev.now _
  · simp only [if_neg h]
    refine Ev.bind (int_ev hl' hb') (Ev.bind (rint_ev hl' hb') (Ev.bind (put_ev (i64b hv).2) (Ev.bind (rput_ev (i64b hv).2) ?_)))
    simp only [if_pos]
    refine Ev.bind (eqb_ev (by have := putS_length (v := v) (n := n); omega)) ?_
    simp only [decide_true, if_pos]
    exact Ev.bind awake_ev (Ev.now _)
end Go.Proofs.Ytlhdfdedhdcmiaa.Pure
