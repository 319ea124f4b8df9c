/- What is proved: a page's bytes, its error and the comparing of pages are the reference's, and the page of the bytes is the page. This text: the statement about numbers and lists alone. No condition. -/
import Derived.Test.YtaebgjdaoloceaaPDecE
import Derived.Test.YtaebgjdaoloceaaPSame
import Derived.Test.YtaebgjdaoloceaaPEqb
import Derived.Test.YtaebgjdaoloceaaPSmallP
import Derived.Test.YtaebgjdaoloceaaPAwake19
import Derived.Test.YtaebgjdaoloceaaLPages
namespace Go.Proofs.Ytaebgjdaoloceaa.Pure
open Go.RowKit Go.Proofs.Ytaebgjdaoloceaa.QBmpP Go.Proofs.YtaebgjdaoloceaaW.PrintWords Go.Proofs.YtaebgjdaoloceaaW.PrintMore Go.Proofs.YtaebgjdaoloceaaV Go.Proofs.Ytaebgjdaoloceaa.PureB Go.Proofs.Ytaebgjdaoloceaa.PureD Go.Proofs.Ytaebgjdaoloceaa.PureI
theorem flat_len {α : Type} {f : α → List Int} {n : Nat} : ∀ (l : List α), (∀ x ∈ l, (f x).length ≤ n) → (l.flatMap f).length ≤ n * l.length
  | [], _ => by simp
  | x :: t, h => by
    have := flat_len t (fun y hy => h y (by simp [hy]))
    have := h x (by simp)
    rw [List.flatMap_cons, List.length_append, List.length_cons, Nat.mul_add]
    omega
theorem pch_len {x : S91} (h : x.f4.length ≤ 5000) : (pchB x).length ≤ 10050 := by
  have h1 := putS_length (v := x.f0) (n := 2)
  have h2 := putS_length (v := x.f1) (n := 2)
  have h3 := putS_length (v := ((runF x.f4 x.f2).1.length : Int)) (n := 2)
  have h4 := runF_len (w := x.f2) h
  simp only [pchB, List.length_append, List.length_cons, List.length_nil]
  omega
theorem encF_len {cl : Bool} {pal : List Int} {pp : List S91} (h1 : pal.length ≤ 100) (h2 : pp.length ≤ 20) (h3 : ∀ x ∈ pp, x.f4.length ≤ 5000) : (encF cl pal pp).1.length ≤ 1000000 := by
  unfold encF
  split
  · have e1 := flat_len (f := pchB) (n := 10050) pp (fun x hx => pch_len (h3 x hx))
    have e2 := flat_len (f := fun c => (putS c 3).1) (n := 8) pal (fun x _ => putS_length)
    have e3 := putS_length (v := sumS (headB cl pal pp)) (n := 4)
    have e4 : 10050 * pp.length ≤ 10050 * 20 := Nat.mul_le_mul_left _ h2
    have e5 : (headB cl pal pp).length = 3 + (pal.flatMap (fun c => (putS c 3).1)).length + (pp.flatMap pchB).length := by
      simp only [headB, palB, List.length_append, List.length_cons, List.length_nil]; omega
    simp only [List.length_append]
    omega
  · simp
theorem encF_in {cl : Bool} {pal : List Int} {pp : List S91} : Bs (encF cl pal pp).1 := by
  unfold encF
  split
  · intro y hy
    rcases List.mem_append.mp hy with hy | hy
    · exact headB_in cl pal pp y hy
    · exact putS_in _ _ y hy
  · intro y hy; cases hy
theorem encF_zero {cl : Bool} {pal : List Int} {pp : List S91} (h : (encF cl pal pp).2 = 0) : checkF pal pp = 0 := by
  unfold encF at h
  split at h
  · assumption
  · exact h
theorem le64 {a : Int} (h : (Lit.int .i64 a).wf = true) : a ≤ 9223372036854775807 := (i64b h).2
theorem BitmapPages : ∀ (a0_0 : Bool) (l0_1 : List (Int)) (l0_2 : List (S91)) (a1_0 : Bool) (l1_1 : List (Int)) (l1_2 : List (S91)), l0_1.length ≤ maxLen → (∀ y ∈ l0_1, (Lit.int .i64 y).wf = true) → l0_2.length ≤ maxLen → (∀ y ∈ l0_2, ((Lit.int .i64 y.f0).wf = true) ∧ ((Lit.int .i64 y.f1).wf = true) ∧ ((Lit.int .i64 y.f2).wf = true) ∧ ((Lit.int .i64 y.f3).wf = true) ∧ (y.f4.length ≤ maxLen ∧ ∀ x0 ∈ y.f4, (Lit.int .i64 x0).wf = true)) → l1_1.length ≤ maxLen → (∀ y ∈ l1_1, (Lit.int .i64 y).wf = true) → l1_2.length ≤ maxLen → (∀ y ∈ l1_2, ((Lit.int .i64 y.f0).wf = true) ∧ ((Lit.int .i64 y.f1).wf = true) ∧ ((Lit.int .i64 y.f2).wf = true) ∧ ((Lit.int .i64 y.f3).wf = true) ∧ (y.f4.length ≤ maxLen ∧ ∀ x0 ∈ y.f4, (Lit.int .i64 x0).wf = true)) → ∃ k, dioramalaw19_BitmapPages.f k a0_0 l0_1 l0_2 a1_0 l1_1 l1_2 = some true := by
  intro cl pal pp cl' pal' pp' hm1 hw1 hm2 hw2 hn1 hv1 hn2 hv2
  unfold maxLen at hm1 hm2 hn1 hn2
  apply Ev.rounds (g := fun k => dioramalaw19_BitmapPages.f k cl pal pp cl' pal' pp')
  unfold dioramalaw19_BitmapPages.f
  obtain ⟨r, hr, hs⟩ := ev_small (cl := cl) (pal := pal) (pp := pp) (by omega) (by omega)
  obtain ⟨r', hr', hs'⟩ := ev_small (cl := cl') (pal := pal') (pp := pp') (by omega) (by omega)
  refine Ev.bind hr ?_
  cases r with
  | false => simp only [if_true]; exact Ev.now _
  | true =>
    obtain ⟨s1, s2, s3⟩ := hs rfl
    simp only [Bool.true_eq_false, if_false]
    refine Ev.bind hr' ?_
    cases r' with
    | false => simp only [if_true]; exact Ev.now _
    | true =>
      simp only [Bool.true_eq_false, if_false]
      have hfit : fit pp := fun x hx => by have := s3 x hx; omega
      have hfp : fitP pp := fun x hx => by have := s3 x hx; omega
      have hl := encF_len (cl := cl) s1 s2 s3
      refine Ev.bind (enc_ev (fun x hx => ⟨s3 x hx, le64 (hw2 x hx).1, le64 (hw2 x hx).2.1⟩) s2 (fun c hc => le64 (hw1 c hc)) (by omega)) ?_
      refine Ev.bind (renc_ev hfit s2 (by omega)) ?_
      refine Ev.bind (eqb_ev (by omega)) ?_
      refine Ev.bind (ev_check (pal := pal) (pp := pp) (by omega) (by omega) hfit cl) ?_
      refine Ev.bind (ev_rcheck (pal := pal) (pp := pp) (by omega) (by omega) hfit cl) ?_
      refine Ev.bind (same_ev (by omega) hfp (by omega)) ?_
      refine Ev.bind (eqpage_ev (by omega)) ?_
      refine Ev.bind (same_ev (by omega) hfp (by omega)) ?_
      refine Ev.bind (eqpage_ev (by omega)) ?_
      refine Ev.bind ev_awake ?_
      simp only [pageEq_refl, decide_true, and_true, if_true]
      by_cases hz : (encF cl pal pp).2 = 0
      · simp only [if_pos hz]
        refine Ev.bind (dec_ev encF_in (by omega)) ?_
        rw [dec_enc (encF_zero hz)]
        simp only [patEq_refl, and_self, if_true]
        exact Ev.now _
      · simp only [if_neg hz]
        exact Ev.now _
end Go.Proofs.Ytaebgjdaoloceaa.Pure
