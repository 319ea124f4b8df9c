/- What is proved: what pages make of an empty canvas is the chapter's. This text: the statement about numbers alone. No condition. -/
import Derived.Test.YtaebgjdaoloceaaPDraw3
import Derived.Test.YtaebgjdaoloceaaPEqi
import Derived.Test.YtaebgjdaoloceaaPAwake19
import Derived.Test.YtaebgjdaoloceaaLComposes
namespace Go.Proofs.Ytaebgjdaoloceaa.Pure
open Go.RowKit Go.Proofs.Ytaebgjdaoloceaa.QBmpC Go.Proofs.YtaebgjdaoloceaaW.PrintWords Go.Proofs.YtaebgjdaoloceaaW.PrintMore Go.Proofs.YtaebgjdaoloceaaV Go.Proofs.Ytaebgjdaoloceaa.PureD Go.Proofs.Ytaebgjdaoloceaa.PureI
theorem ev_small {p : S51} (h1 : p.f1.length ≤ 9223372036854775807) (h2 : p.f2.length ≤ 9223372036854775807) : ∃ r, Ev (fun k => dioramalaw19_small.f k p.f0 p.f1 p.f2) r ∧ (r = true → smallP p) := by
  unfold dioramalaw19_small.f
  by_cases hb : ∀ x ∈ p.f2, x.f4.length ≤ 5000
  · refine ⟨decide (p.f2.length ≤ 20) && decide (p.f1.length ≤ 100), ?_, fun h => by simp at h; exact ⟨h.2, h.1, hb⟩⟩
    refine Ev.list (l := p.f2) (f := fun k i => dioramalaw19_small.l0 k (i : Int) p.f0 p.f1 p.f2) (fun _ _ => decide (p.f2.length ≤ 20) && decide (p.f1.length ≤ 100)) ?_ ?_
    · refine Ev.step (f := fun _ => some (decide (p.f2.length ≤ 20) && decide (p.f1.length ≤ 100))) (fun k => ?_) (Ev.now _)
      rw [dioramalaw19_small.l0, if_neg (by omega)]
      by_cases h3 : p.f2.length ≤ 20
      · rw [if_pos (by omega), decide_eq_true h3, Bool.true_and]
        congr 1
        exact decide_eq_decide.mpr (by omega)
      · rw [if_neg (by omega), decide_eq_false h3, Bool.false_and]
    · intro i x t e ih
      have hi := (drop_at e).1
      have hx := hb x (List.mem_of_mem_drop (by rw [e]; exact List.mem_cons_self))
      refine Ev.step (fun k => ?_) ih
      rw [dioramalaw19_small.l0, if_pos (by omega), if_pos (by omega), rd91 e, if_neg (by omega), w_next (by omega)]
  · refine ⟨false, ?_, fun h => by cases h⟩
    have hm : ∀ t : List S91, ∀ i, p.f2.drop i = t → i ≤ p.f2.length → (¬ ∀ x ∈ t, x.f4.length ≤ 5000) → Ev (fun k => dioramalaw19_small.l0 k (i : Int) p.f0 p.f1 p.f2) false := by
      intro t
      induction t with
      | nil => intro i e hi h; exact absurd (by simp) h
      | cons x t ih =>
        intro i e hi h
        have hi := (drop_at e).1
        by_cases hx : x.f4.length ≤ 5000
        · have := ih (i + 1) (drop_at e).2.1 hi (fun q => h (fun y hy => by rcases List.mem_cons.mp hy with rfl | hy; exact hx; exact q y hy))
          refine Ev.step (fun k => ?_) this
          rw [dioramalaw19_small.l0, if_pos (by omega), if_pos (by omega), rd91 e, if_neg (by omega), w_next (by omega)]
        · refine Ev.step (f := fun _ => some false) (fun k => ?_) (Ev.now _)
          rw [dioramalaw19_small.l0, if_pos (by omega), if_pos (by omega), rd91 e, if_pos (by omega)]
    exact hm p.f2 0 rfl (Nat.zero_le _) hb
def wfP (p : S51) : Prop := p.f1.length ≤ 9223372036854775807 ∧ p.f2.length ≤ 9223372036854775807
theorem ev_pages {l : List S51} (hl : l.length ≤ 9223372036854775807) (hw : ∀ p ∈ l, wfP p) : ∃ r, Ev (fun k => dioramalaw19_pages.f k l) r ∧ (r = true → l.length ≤ 12 ∧ ∀ p ∈ l, smallP p) := by
  unfold dioramalaw19_pages.f
  have hm : ∀ t : List S51, ∀ i, l.drop i = t → i ≤ l.length → ∃ r, Ev (fun k => dioramalaw19_pages.l0 k l (i : Int)) r ∧ (r = true → l.length ≤ 12 ∧ ∀ p ∈ t, smallP p) := by
    intro t
    induction t with
    | nil =>
      intro i e hi
      have : i = l.length := by have h2 := congrArg List.length e; simp at h2; omega
      subst this
      refine ⟨decide ((l.length : Int) ≤ 12), Ev.step (f := fun _ => some (decide ((l.length : Int) ≤ 12))) (fun k => ?_) (Ev.now _), fun h => ⟨by have := of_decide_eq_true h; omega, by simp⟩⟩
      rw [dioramalaw19_pages.l0, if_neg (by omega)]
    | cons p t ih =>
      intro i e hi
      have hi := (drop_at e).1
      have hp := hw p (List.mem_of_mem_drop (by rw [e]; exact List.mem_cons_self))
      obtain ⟨r1, h1, h2⟩ := ev_small hp.1 hp.2
      obtain ⟨r2, h3, h4⟩ := ih (i + 1) (drop_at e).2.1 hi
      refine ⟨r1 && r2, ?_, fun h => ?_⟩
      · refine Ev.step (f := fun k => (dioramalaw19_small.f k p.f0 p.f1 p.f2).bind fun t280 => (if t280 = true then (dioramalaw19_pages.l0 k l ((i + 1 : Nat) : Int)) else (some false))) (fun k => ?_) ?_
        · rw [dioramalaw19_pages.l0, if_pos (by omega), if_pos (by omega), rd51 e, w_next (by omega)]
        · refine Ev.bind h1 ?_
          cases r1 with
          | true => simpa using h3
          | false => exact Ev.now _
      · simp only [Bool.and_eq_true] at h
        refine ⟨(h4 h.2).1, fun q hq => ?_⟩
        rcases List.mem_cons.mp hq with rfl | hq
        · exact h2 h.1
        · exact (h4 h.2).2 q hq
  exact hm l 0 rfl (Nat.zero_le _)
theorem ev_same {a b : Int} {p x : List Int} (h1 : p.length ≤ 9223372036854775807) (h2 : x.length ≤ 9223372036854775807) : Ev (fun k => dioramalaw19_same.f k a b p x a b p x) true := by
  unfold dioramalaw19_same.f
  simp only [if_true]
  refine Ev.bind (eqi_ev h1) ?_
  simp only [decide_true, if_true]
  exact Ev.bind (eqi_ev h2) (by simpa using Ev.now true)
theorem BitmapComposes_ev {l : List S51} {w h : Int} (hl : l.length ≤ 9223372036854775807) (hw : ∀ p ∈ l, wfP p) : Ev (fun k => dioramalaw19_BitmapComposes.f k l w h) true := by
  unfold dioramalaw19_BitmapComposes.f
  obtain ⟨r, h1, h2⟩ := ev_pages hl hw
  refine Ev.bind h1 ?_
  cases r with
  | false => exact Ev.now _
  | true =>
    obtain ⟨h3, h4⟩ := h2 rfl
    have hc := compose_len h4 w h
    have he := empty_len w h
    simp only [Bool.true_eq_false, if_false]
    refine Ev.bind (ev_compose h4 (by omega) w h) (Ev.bind (ev_rcompose h4 (by omega) w h) (Ev.bind (ev_same (by omega) (by omega)) (Ev.bind (ev_empty w h) (Ev.bind (ev_rempty w h) (Ev.bind (ev_same (by omega) (by omega)) (Ev.bind ev_awake ?_))))))
    simp only [and_self, if_true]
    exact Ev.now _
theorem BitmapComposes : ∀ (l0 : List (S51)) (a1 : Int) (a2 : Int), l0.length ≤ maxLen → (∀ y ∈ l0, (True) ∧ (y.f1.length ≤ maxLen ∧ ∀ x0 ∈ y.f1, (Lit.int .i64 x0).wf = true) ∧ (y.f2.length ≤ maxLen ∧ ∀ x0 ∈ y.f2, ((Lit.int .i64 x0.f0).wf = true) ∧ ((Lit.int .i64 x0.f1).wf = true) ∧ ((Lit.int .i64 x0.f2).wf = true) ∧ ((Lit.int .i64 x0.f3).wf = true) ∧ (x0.f4.length ≤ maxLen ∧ ∀ x1 ∈ x0.f4, (Lit.int .i64 x1).wf = true))) → ((Lit.int .i64 a1).wf = true) → ((Lit.int .i64 a2).wf = true) → ∃ k, dioramalaw19_BitmapComposes.f k l0 a1 a2 = some true := by
  intro l w h h1 h2 _ _
  unfold maxLen at h1 h2
  exact Ev.rounds (BitmapComposes_ev h1 (fun p hp => ⟨(h2 p hp).2.1.1, (h2 p hp).2.2.1⟩))
end Go.Proofs.Ytaebgjdaoloceaa.Pure
