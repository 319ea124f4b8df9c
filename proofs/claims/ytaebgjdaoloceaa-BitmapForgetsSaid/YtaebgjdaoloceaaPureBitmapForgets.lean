/- What is proved: pages from one with Clear and a palette on make the same canvas, whatever was drawn before. This text: the statement about numbers alone. No condition. -/
import Derived.Test.YtaebgjdaoloceaaPForget
import Derived.Test.YtaebgjdaoloceaaPPages
import Derived.Test.YtaebgjdaoloceaaPAwake19
import Derived.Test.YtaebgjdaoloceaaLForgets
namespace Go.Proofs.Ytaebgjdaoloceaa.Pure
open Go.RowKit Go.Proofs.Ytaebgjdaoloceaa.QBmpF Go.Proofs.YtaebgjdaoloceaaW.PrintWords Go.Proofs.YtaebgjdaoloceaaW.PrintMore Go.Proofs.YtaebgjdaoloceaaV Go.Proofs.Ytaebgjdaoloceaa.PureD Go.Proofs.Ytaebgjdaoloceaa.PureI
theorem BitmapForgets_ev {l b : List S51} {cl : Bool} {pp : List Int} {ps : List S91} {w h : Int} (h1 : l.length ≤ 9223372036854775807) (h2 : ∀ p ∈ l, wfP p) (h3 : b.length ≤ 9223372036854775807) (h4 : ∀ p ∈ b, wfP p) (h5 : pp.length ≤ 9223372036854775807) (h6 : ps.length ≤ 9223372036854775807) :
    Ev (fun k => dioramalaw19_BitmapForgets.f k l cl pp ps b w h) true := by
  unfold dioramalaw19_BitmapForgets.f
  obtain ⟨r, e1, e2⟩ := ev_pages h1 h2
  refine Ev.bind e1 ?_
  cases r with
  | false => exact Ev.now _
  | true =>
  obtain ⟨s1, s2⟩ := e2 rfl
  obtain ⟨r, e3, e4⟩ := ev_pages h3 h4
  simp only [Bool.true_eq_false, if_false]
  refine Ev.bind e3 ?_
  cases r with
  | false => exact Ev.now _
  | true =>
  obtain ⟨s3, s4⟩ := e4 rfl
  obtain ⟨r, e5, e6⟩ := ev_small (cl := cl) h5 h6
  simp only [Bool.true_eq_false, if_false]
  refine Ev.bind e5 ?_
  cases r with
  | false => exact Ev.now _
  | true =>
  have s5 := e6 rfl
  simp only [Bool.true_eq_false, if_false]
  refine Ev.bind ev_awake ?_
  by_cases hn : pp.length = 0
  · simp only [if_pos hn, if_true]; exact Ev.now _
  simp only [if_neg hn]
  have hs : ∀ p ∈ [(⟨true, pp, ps⟩ : S51)] ++ b, smallP p := by
    intro p hp
    rcases List.mem_append.mp hp with hp | hp
    · rw [List.mem_singleton.mp hp]; exact s5
    · exact s4 p hp
  have hl : ∀ p ∈ ([] ++ l) ++ ([(⟨true, pp, ps⟩ : S51)] ++ b), smallP p := by
    intro p hp
    rcases List.mem_append.mp hp with hp | hp
    · exact s2 p (by simpa using hp)
    · exact hs p hp
  have hc := compose_len hl w h
  refine Ev.bind (ev_compose hs (by simp; omega) w h) (Ev.bind (ev_compose hl (by simp; omega) w h) (Ev.bind (ev_same (by omega) (by omega)) ?_))
  have hf : (composeF (([] ++ l) ++ ([(⟨true, pp, ps⟩ : S51)] ++ b)) w h).2.2.2.2 = 0 → composeF (([] ++ l) ++ ([(⟨true, pp, ps⟩ : S51)] ++ b)) w h = composeF ([(⟨true, pp, ps⟩ : S51)] ++ b) w h := by
    intro e
    exact forgets (l := [] ++ l) (by omega) e
  have hcond : (l.length ≤ 12 ∧ b.length ≤ 12) ∧ ((composeF (([] ++ l) ++ ([(⟨true, pp, ps⟩ : S51)] ++ b)) w h).2.2.2.2 = 0 → composeF (([] ++ l) ++ ([(⟨true, pp, ps⟩ : S51)] ++ b)) w h = composeF ([(⟨true, pp, ps⟩ : S51)] ++ b) w h) ∧ true = true ∧ true = true := ⟨⟨s1, s3⟩, hf, rfl, rfl⟩
  refine Ev.congr (f := fun _ => some true) (fun k => ?_) (Ev.now _)
  exact if_pos ⟨hcond.1, hcond.2.1, rfl, trivial⟩
theorem BitmapForgets : ∀ (l0_0 : List (S51)) (a0_1_0 : Bool) (l0_1_1 : List (Int)) (l0_1_2 : List (S91)) (l0_2 : List (S51)) (a0_3 : Int) (a0_4 : Int), l0_0.length ≤ maxLen → (∀ y ∈ l0_0, (True) ∧ (y.f1.length ≤ maxLen ∧ ∀ x0 ∈ y.f1, (Lit.int .i64 x0).wf = true) ∧ (y.f2.length ≤ maxLen ∧ ∀ x0 ∈ y.f2, ((Lit.int .i64 x0.f0).wf = true) ∧ ((Lit.int .i64 x0.f1).wf = true) ∧ ((Lit.int .i64 x0.f2).wf = true) ∧ ((Lit.int .i64 x0.f3).wf = true) ∧ (x0.f4.length ≤ maxLen ∧ ∀ x1 ∈ x0.f4, (Lit.int .i64 x1).wf = true))) → l0_1_1.length ≤ maxLen → (∀ y ∈ l0_1_1, (Lit.int .i64 y).wf = true) → l0_1_2.length ≤ maxLen → (∀ y ∈ l0_1_2, ((Lit.int .i64 y.f0).wf = true) ∧ ((Lit.int .i64 y.f1).wf = true) ∧ ((Lit.int .i64 y.f2).wf = true) ∧ ((Lit.int .i64 y.f3).wf = true) ∧ (y.f4.length ≤ maxLen ∧ ∀ x0 ∈ y.f4, (Lit.int .i64 x0).wf = true)) → l0_2.length ≤ maxLen → (∀ y ∈ l0_2, (True) ∧ (y.f1.length ≤ maxLen ∧ ∀ x0 ∈ y.f1, (Lit.int .i64 x0).wf = true) ∧ (y.f2.length ≤ maxLen ∧ ∀ x0 ∈ y.f2, ((Lit.int .i64 x0.f0).wf = true) ∧ ((Lit.int .i64 x0.f1).wf = true) ∧ ((Lit.int .i64 x0.f2).wf = true) ∧ ((Lit.int .i64 x0.f3).wf = true) ∧ (x0.f4.length ≤ maxLen ∧ ∀ x1 ∈ x0.f4, (Lit.int .i64 x1).wf = true))) → ((Lit.int .i64 a0_3).wf = true) → ((Lit.int .i64 a0_4).wf = true) → ∃ k, dioramalaw19_BitmapForgets.f k l0_0 a0_1_0 l0_1_1 l0_1_2 l0_2 a0_3 a0_4 = some true := by
  intro l cl pp ps b w h h1 h2 h5 _ h6 _ h3 h4 _ _
  unfold maxLen at h1 h2 h3 h4 h5 h6
  exact Ev.rounds (BitmapForgets_ev h1 (fun p hp => ⟨(h2 p hp).2.1.1, (h2 p hp).2.2.1⟩) h3 (fun p hp => ⟨(h4 p hp).2.1.1, (h4 p hp).2.2.1⟩) h5 h6)
end Go.Proofs.Ytaebgjdaoloceaa.Pure
