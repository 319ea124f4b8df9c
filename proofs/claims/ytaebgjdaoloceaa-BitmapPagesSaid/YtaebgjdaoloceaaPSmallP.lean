/- A lemma file: small pages, equal canvases. No condition. -/
import Derived.Test.YtaebgjdaoloceaaPChkP
import Derived.Test.YtaebgjdaoloceaaQBmpPx2
namespace Go.Proofs.Ytaebgjdaoloceaa.PureD
open Go.RowKit Go.Proofs.Ytaebgjdaoloceaa.QBmpP Go.Proofs.YtaebgjdaoloceaaW.PrintWords Go.Proofs.YtaebgjdaoloceaaW.PrintMore Go.Proofs.YtaebgjdaoloceaaV
def smallB (pal : List Int) (pp : List S91) : Prop := pal.length ≤ 100 ∧ pp.length ≤ 20 ∧ ∀ x ∈ pp, x.f4.length ≤ 5000
theorem ev_small {cl : Bool} {pal : List Int} {pp : List S91} (h1 : pal.length ≤ 9223372036854775807) (h2 : pp.length ≤ 9223372036854775807) : ∃ r, Ev (fun k => dioramalaw19_small.f k cl pal pp) r ∧ (r = true → smallB pal pp) := by
  unfold dioramalaw19_small.f
  by_cases hb : ∀ x ∈ pp, x.f4.length ≤ 5000
  · refine ⟨decide (pp.length ≤ 20) && decide (pal.length ≤ 100), ?_, fun h => by simp at h; exact ⟨h.2, h.1, hb⟩⟩
    refine Ev.list (l := pp) (f := fun k i => dioramalaw19_small.l0 k (i : Int) cl pal pp) (fun _ _ => decide (pp.length ≤ 20) && decide (pal.length ≤ 100)) ?_ ?_
    · refine Ev.step (f := fun _ => some (decide (pp.length ≤ 20) && decide (pal.length ≤ 100))) (fun k => ?_) (Ev.now _)
      rw [dioramalaw19_small.l0, if_neg (by omega)]
      by_cases h3 : pp.length ≤ 20
      · rw [if_pos (by omega), decide_eq_true h3, Bool.true_and]
        congr 1
        exact decide_eq_decide.mpr (by omega)
      · rw [if_neg (by omega), decide_eq_false h3, Bool.false_and]
    · intro i x t e ih
      have hi := (drop_at e).1
      have hx := hb x (List.mem_of_mem_drop (by rw [e]; exact List.mem_cons_self))
      refine Ev.step (fun k => ?_) ih
      rw [dioramalaw19_small.l0, if_pos (by omega), if_pos (by omega), rd91 e, if_neg (by omega), w_next (by omega)]
  · refine ⟨false, ?_, fun h => by cases h⟩
    have hm : ∀ t : List S91, ∀ i, pp.drop i = t → i ≤ pp.length → (¬ ∀ x ∈ t, x.f4.length ≤ 5000) → Ev (fun k => dioramalaw19_small.l0 k (i : Int) cl pal pp) false := by
      intro t
      induction t with
      | nil => intro i e hi h; exact absurd (by simp) h
      | cons x t ih =>
        intro i e hi h
        have hi := (drop_at e).1
        by_cases hx : x.f4.length ≤ 5000
        · have := ih (i + 1) (drop_at e).2.1 hi (fun q => h (fun y hy => by rcases List.mem_cons.mp hy with rfl | hy; exact hx; exact q y hy))
          refine Ev.step (fun k => ?_) this
          rw [dioramalaw19_small.l0, if_pos (by omega), if_pos (by omega), rd91 e, if_neg (by omega), w_next (by omega)]
        · refine Ev.step (f := fun _ => some false) (fun k => ?_) (Ev.now _)
          rw [dioramalaw19_small.l0, if_pos (by omega), if_pos (by omega), rd91 e, if_pos (by omega)]
    exact hm pp 0 rfl (Nat.zero_le _) hb
end Go.Proofs.Ytaebgjdaoloceaa.PureD
