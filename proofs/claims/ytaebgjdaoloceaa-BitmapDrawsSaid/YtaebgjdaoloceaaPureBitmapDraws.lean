/- What is proved: what a page makes of any canvas, and the colours of its pixels, are the chapter's. This text: the statement about numbers alone. No condition. -/
import Derived.Test.YtaebgjdaoloceaaPColours
import Derived.Test.YtaebgjdaoloceaaPAwake19
import Derived.Test.YtaebgjdaoloceaaLDraws
namespace Go.Proofs.Ytaebgjdaoloceaa.Pure
open Go.RowKit Go.Proofs.Ytaebgjdaoloceaa.QBmpD Go.Proofs.YtaebgjdaoloceaaW.PrintWords Go.Proofs.YtaebgjdaoloceaaW.PrintMore Go.Proofs.YtaebgjdaoloceaaV Go.Proofs.Ytaebgjdaoloceaa.PureD Go.Proofs.Ytaebgjdaoloceaa.PureI
theorem BitmapDraws_ev {w h : Int} {pal px : List Int} {cl : Bool} {pp : List Int} {ps : List S91} (h1 : pp.length ≤ 9223372036854775807) (h2 : ps.length ≤ 9223372036854775807) : Ev (fun k => dioramalaw19_BitmapDraws.f k w h pal px cl pp ps) true := by
  unfold dioramalaw19_BitmapDraws.f
  by_cases b1 : 41000 < px.length
  · simp only [if_pos b1]; exact Ev.now _
  by_cases b2 : 100 < pal.length
  · simp only [if_neg b1, if_pos b2]; exact Ev.now _
  simp only [if_neg b1, if_neg b2]
  obtain ⟨r, e1, e2⟩ := ev_small (cl := cl) h1 h2
  refine Ev.bind e1 ?_
  cases r with
  | false => exact Ev.now _
  | true =>
    obtain ⟨s1, s2, s3⟩ := e2 rfl
    have hf : fit ps := fun x hx => by have := s3 x hx; omega
    have hd := draw_len (w := w) (h := h) (pal := pal) (px := px) (cl := cl) (ppal := pp) (pp := ps) (by omega) (by omega) (by omega)
    simp only [Bool.true_eq_false, if_false]
    refine Ev.bind (ev_theirs (by omega) (by omega)) (Ev.bind (ev_draw (by omega) (by omega) (by omega) (by omega) hf) (Ev.bind (ev_rdraw (by omega) (by omega) (by omega) (by omega) hf) (Ev.bind (ev_same (by omega) (by omega)) (Ev.bind (ev_same (by omega) (by omega))
      (Ev.bind (ev_colours' (by omega) (by omega)) (Ev.bind (ev_rcolours (by omega) (by omega)) (Ev.bind (eqi_ev (by have := colours_len (w := w) (h := h) (pal := pal) (px := px) (by omega); omega)) (Ev.bind (ev_samec (by omega) (by omega)) (Ev.bind (ev_samel (by omega) (by omega)) (Ev.bind ev_awake ?_))))))))))
    simp only [decide_true, and_self, if_true]
    exact Ev.now _
theorem BitmapDraws : ∀ (a0_0 : Int) (a0_1 : Int) (l0_2 : List (Int)) (l0_3 : List (Int)) (a1_0 : Bool) (l1_1 : List (Int)) (l1_2 : List (S91)), ((Lit.int .i64 a0_0).wf = true) → ((Lit.int .i64 a0_1).wf = true) → l0_2.length ≤ maxLen → (∀ y ∈ l0_2, (Lit.int .i64 y).wf = true) → l0_3.length ≤ maxLen → (∀ y ∈ l0_3, (Lit.int .i64 y).wf = true) → l1_1.length ≤ maxLen → (∀ y ∈ l1_1, (Lit.int .i64 y).wf = true) → l1_2.length ≤ maxLen → (∀ y ∈ l1_2, ((Lit.int .i64 y.f0).wf = true) ∧ ((Lit.int .i64 y.f1).wf = true) ∧ ((Lit.int .i64 y.f2).wf = true) ∧ ((Lit.int .i64 y.f3).wf = true) ∧ (y.f4.length ≤ maxLen ∧ ∀ x0 ∈ y.f4, (Lit.int .i64 x0).wf = true)) → ∃ k, dioramalaw19_BitmapDraws.f k a0_0 a0_1 l0_2 l0_3 a1_0 l1_1 l1_2 = some true := by
  intro w h pal px cl pp ps _ _ _ _ _ _ h1 _ h2 _
  unfold maxLen at h1 h2
  exact Ev.rounds (BitmapDraws_ev h1 h2)
end Go.Proofs.Ytaebgjdaoloceaa.Pure
