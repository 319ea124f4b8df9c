/- A lemma file: pages that are small. No condition. -/
import Derived.Test.YtaebgjdaoloceaaPComp
import Derived.Test.YtaebgjdaoloceaaQBmpFx2
namespace Go.Proofs.Ytaebgjdaoloceaa.PureD
open Go.RowKit Go.Proofs.Ytaebgjdaoloceaa.QBmpF Go.Proofs.YtaebgjdaoloceaaW.PrintWords Go.Proofs.YtaebgjdaoloceaaW.PrintMore Go.Proofs.YtaebgjdaoloceaaV Go.Proofs.Ytaebgjdaoloceaa.PureI
def wfP (p : S51) : Prop := p.f1.length ≤ 9223372036854775807 ∧ p.f2.length ≤ 9223372036854775807
theorem ev_pages {l : List S51} (hl : l.length ≤ 9223372036854775807) (hw : ∀ p ∈ l, wfP p) : ∃ r, Ev (fun k => dioramalaw19_pages.f k l) r ∧ (r = true → l.length ≤ 12 ∧ ∀ p ∈ l, smallP p) := by
  unfold dioramalaw19_pages.f
  have hm : ∀ t : List S51, ∀ i, l.drop i = t → i ≤ l.length → ∃ r, Ev (fun k => dioramalaw19_pages.l0 k l (i : Int)) r ∧ (r = true → l.length ≤ 12 ∧ ∀ p ∈ t, smallP p) := by
    intro t
    induction t with
    | nil =>
      intro i e hi
      have : i = l.length := by have h2 := congrArg List.length e; simp at h2; omega
      subst this
      refine ⟨decide ((l.length : Int) ≤ 12), Ev.step (f := fun _ => some (decide ((l.length : Int) ≤ 12))) (fun k => ?_) (Ev.now _), fun h => ⟨by have := of_decide_eq_true h; omega, by simp⟩⟩
      rw [dioramalaw19_pages.l0, if_neg (by omega)]
    | cons p t ih =>
      intro i e hi
      have hi := (drop_at e).1
      have hp := hw p (List.mem_of_mem_drop (by rw [e]; exact List.mem_cons_self))
      obtain ⟨r1, h1, h2⟩ := ev_small hp.1 hp.2
      obtain ⟨r2, h3, h4⟩ := ih (i + 1) (drop_at e).2.1 hi
      refine ⟨r1 && r2, ?_, fun h => ?_⟩
      · refine Ev.step (f := fun k => (dioramalaw19_small.f k p.f0 p.f1 p.f2).bind fun t280 => (if t280 = true then (dioramalaw19_pages.l0 k l ((i + 1 : Nat) : Int)) else (some false))) (fun k => ?_) ?_
        · rw [dioramalaw19_pages.l0, if_pos (by omega), if_pos (by omega), rd51 e, w_next (by omega)]
        · refine Ev.bind h1 ?_
          cases r1 with
          | true => simpa using h3
          | false => exact Ev.now _
      · simp only [Bool.and_eq_true] at h
        refine ⟨(h4 h.2).1, fun q hq => ?_⟩
        rcases List.mem_cons.mp hq with rfl | hq
        · exact h2 h.1
        · exact (h4 h.2).2 q hq
  exact hm l 0 rfl (Nat.zero_le _)
end Go.Proofs.Ytaebgjdaoloceaa.PureD
