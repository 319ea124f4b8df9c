/- What is proved: folding any number, and taking it back, is the chapter's; a number from -2^61 to 2^61 comes back. This text: the statement about numbers alone. No condition. -/
import Derived.Test.YtlhdfdedhdcmiaaVAwake01
import Derived.Test.YtlhdfdedhdcmiaaQBitsx20
namespace Go.Proofs.Ytlhdfdedhdcmiaa.Pure
open Go.RowKit Go.Proofs.Ytlhdfdedhdcmiaa.QBits Go.Proofs.YtlhdfdedhdcmiaaW.PrintWords Go.Proofs.YtlhdfdedhdcmiaaV
def foldS (a : Int) : Int := if a < -2305843009213693952 ∨ a > 2305843009213693952 then 0 else if a < 0 then -2 * a - 1 else 2 * a
def unfoldS (a : Int) : Int := if a < 0 ∨ a > 4611686018427387904 then 0 else if a % 2 = 1 then -(a / 2) - 1 else a / 2
theorem fold_p (k : Nat) (a : Int) : bits_Fold.f (k + 1) a = some (foldS a) := by
  unfold bits_Fold.f foldS
  simp only [bits_Fold.j0]
  by_cases h1 : a < -2305843009213693952
  · simp [h1]
  · by_cases h2 : a > 2305843009213693952
    · simp [h2]
    · rw [if_neg h1, if_neg (by simpa using h2), if_neg (show ¬ (a < -2305843009213693952 ∨ a > 2305843009213693952) by omega)]
      by_cases h3 : a < 0
      · rw [if_pos h3, if_pos h3, w64 (x := -2 * a) (by omega) (by omega), w64 (by omega) (by omega)]
      · rw [if_neg h3, if_neg h3, w64 (by omega) (by omega)]
theorem fold_r (k : Nat) (a : Int) : dioramaref01_Fold.f (k + 1) a = some (foldS a) := by
  rw [← fold_p k a]
  rfl
theorem unfold_p (k : Nat) (a : Int) : bits_Unfold.f (k + 1) a = some (unfoldS a) := by
  unfold bits_Unfold.f unfoldS
  simp only [bits_Unfold.j0]
  by_cases h1 : a < 0
  · simp [h1]
  · by_cases h2 : a > 4611686018427387904
    · simp [h2]
    · rw [if_neg h1, if_neg (by simpa using h2), if_neg (show ¬ (a < 0 ∨ a > 4611686018427387904) by omega), i64_and_one (by omega) (by omega)]
      have e2 : Int.tdiv a 2 = a / 2 := Int.tdiv_eq_ediv_of_nonneg (by omega)
      by_cases h3 : a % 2 = 1
      · rw [if_pos h3, if_pos h3, w64 (x := a + 1) (by omega) (by omega), w64 (x := -(a + 1)) (by omega) (by omega)]
        have e3 : Int.tdiv (-(a + 1)) 2 = -(a / 2) - 1 := by
          rw [Int.neg_tdiv, Int.tdiv_eq_ediv_of_nonneg (by omega)]
          omega
        rw [e3, w64 (by omega) (by omega)]
      · rw [if_neg h3, if_neg h3, e2, w64 (by omega) (by omega)]
theorem unfold_r (k : Nat) (a : Int) : dioramaref01_Unfold.f (k + 1) a = some (unfoldS a) := by
  unfold dioramaref01_Unfold.f unfoldS
  simp only [dioramaref01_Unfold.j0]
  by_cases h1 : a < 0
  · simp [h1]
  · by_cases h2 : a > 4611686018427387904
    · simp [h2]
    · rw [if_neg h1, if_neg (by simpa using h2), if_neg (show ¬ (a < 0 ∨ a > 4611686018427387904) by omega)]
      have e2 : Int.tdiv a 2 = a / 2 := Int.tdiv_eq_ediv_of_nonneg (by omega)
      have e3 : Int.tmod a 2 = a % 2 := Int.tmod_eq_emod_of_nonneg (by omega)
      rw [e2, e3]
      by_cases h3 : a % 2 = 1
      · rw [if_pos h3, if_pos h3, w64 (x := a / 2) (by omega) (by omega), w64 (x := -(a / 2)) (by omega) (by omega), w64 (by omega) (by omega)]
      · rw [if_neg h3, if_neg h3, w64 (by omega) (by omega)]
theorem unfold_fold (a : Int) (h1 : -2305843009213693952 ≤ a) (h2 : a ≤ 2305843009213693952) : unfoldS (foldS a) = a := by
  unfold foldS
  rw [if_neg (by omega)]
  by_cases h3 : a < 0
  · rw [if_pos h3]; unfold unfoldS; rw [if_neg (by omega), if_pos (by omega)]; omega
  · rw [if_neg h3]; unfold unfoldS; rw [if_neg (by omega), if_neg (by omega)]; omega
theorem folds_j1 (k : Nat) (h : dioramalaw01_awake.f (k + 1) = some true) : dioramalaw01_BitsFolds.j1 (k + 2) false = some true := by
  simp only [dioramalaw01_BitsFolds.j1]
  rw [if_neg (by simp), fold_p]
  simp only [Option.bind_some]
  rw [if_pos (by decide), h]
  rfl
theorem BitsFolds : ∀ (a0 : Int), ((Lit.int .i64 a0).wf = true) → ∃ k, dioramalaw01_BitsFolds.f k a0 = some true := by
  intro a _
  have hj := folds_j1 19 (at_rounds dioramalaw01_awake.mono (by decide) awake_ok)
  refine ⟨22, ?_⟩
  unfold dioramalaw01_BitsFolds.f
  rw [fold_p, fold_r]
  simp only [Option.bind_some]
  rw [if_pos trivial, unfold_p, unfold_r]
  simp only [Option.bind_some]
  simp only [dioramalaw01_BitsFolds.j0]
  rw [if_neg (by simp)]
  by_cases h1 : a ≥ -2305843009213693952
  · rw [if_pos h1]
    by_cases h2 : a ≤ 2305843009213693952
    · rw [if_pos h2, unfold_p]
      simp only [Option.bind_some]
      rw [unfold_fold a h1 h2]
      simpa using hj
    · rw [if_neg h2]; exact hj
  · rw [if_neg h1]; exact hj
end Go.Proofs.Ytlhdfdedhdcmiaa.Pure
