/- A text of the pure side: each sample by itself. The walk told it all. No condition. -/
import Derived.Test.YtmbhafgnmdfjhaaLAgrM
namespace Go.Proofs.Ytmbhafgnmdfjhaa.Pure
open Go.RowKit Go.Proofs.Ytmbhafgnmdfjhaa.QTab Go.Proofs.YtmbhafgnmdfjhaaW.PrintWords Go.Proofs.YtmbhafgnmdfjhaaW.PrintMore Go.Proofs.YtmbhafgnmdfjhaaV
theorem TableAgree : ∀ (a0_0 : Int) (l0_1 : List (S83)) (l0_2 : List (S83)) (l0_3 : List (Int)) (a0_4 : Bool) (a0_5 : Int) (l0_6 : List (Int)) (l0_7 : List (S86)) (l0_8 : List (Int)) (l0_9 : List (S83)) (l0_10 : List (List (Int))), ((Lit.int .i64 a0_0).wf = true) → l0_1.length ≤ maxLen → (∀ y ∈ l0_1, ((Lit.int .i64 y.f0).wf = true) ∧ ((Lit.int .i64 y.f1).wf = true)) → l0_2.length ≤ maxLen → (∀ y ∈ l0_2, ((Lit.int .i64 y.f0).wf = true) ∧ ((Lit.int .i64 y.f1).wf = true)) → l0_3.length ≤ maxLen → (∀ y ∈ l0_3, (Lit.int .i64 y).wf = true) → ((Lit.int .i64 a0_5).wf = true) → l0_6.length ≤ maxLen → (∀ y ∈ l0_6, (Lit.int .i64 y).wf = true) → l0_7.length ≤ maxLen → (∀ y ∈ l0_7, ((Lit.int .i64 y.f0).wf = true) ∧ ((Lit.int .i64 y.f1).wf = true)) → l0_8.length ≤ maxLen → (∀ y ∈ l0_8, (Lit.int .i64 y).wf = true) → l0_9.length ≤ maxLen → (∀ y ∈ l0_9, ((Lit.int .i64 y.f0).wf = true) ∧ ((Lit.int .i64 y.f1).wf = true)) → l0_10.length ≤ maxLen → (∀ y ∈ l0_10, y.length ≤ maxLen ∧ ∀ x0 ∈ y, (Lit.int .i64 x0).wf = true) → dioramalaw09_TableAgree.f a0_0 l0_1 l0_2 l0_3 a0_4 a0_5 l0_6 l0_7 l0_8 l0_9 l0_10 = some true := by
  intros
  rfl
end Go.Proofs.Ytmbhafgnmdfjhaa.Pure
