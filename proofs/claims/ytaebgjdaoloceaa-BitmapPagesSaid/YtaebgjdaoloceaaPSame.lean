/- A lemma file: pages are the same to the program where they are equal. No condition. -/
import Derived.Test.YtaebgjdaoloceaaPEvo
import Derived.Test.YtaebgjdaoloceaaPEqs
import Derived.Test.YtaebgjdaoloceaaPChkP
import Derived.Test.YtaebgjdaoloceaaQBmpPx7
import Derived.Test.YtaebgjdaoloceaaQBmpPx3
namespace Go.Proofs.Ytaebgjdaoloceaa.PureI
open Go.RowKit Go.Proofs.Ytaebgjdaoloceaa.QBmpP Go.Proofs.YtaebgjdaoloceaaW.PrintWords Go.Proofs.YtaebgjdaoloceaaW.PrintMore Go.Proofs.YtaebgjdaoloceaaV Go.Proofs.Ytaebgjdaoloceaa.PureD
def fitP (l : List S91) : Prop := ∀ x ∈ l, x.f4.length ≤ 9223372036854775807
theorem same1_ev {x y : S91} (h : x.f4.length ≤ 9223372036854775807) : Ev (fun k => bitmap_Same_1.f k x.f0 x.f1 x.f2 x.f3 x.f4 y.f0 y.f1 y.f2 y.f3 y.f4) (patEq1 x y) := by
  unfold bitmap_Same_1.f patEq1
  by_cases h0 : x.f0 = y.f0
  · by_cases h1 : x.f1 = y.f1
    · by_cases h2 : x.f2 = y.f2
      · by_cases h3 : x.f3 = y.f3
        · simp only [if_pos h0, if_pos h1, if_pos h2, if_pos h3]
          refine Ev.bind (eqs_ev h) ?_
          simp only [h0, h1, h2, h3, beq_self_eq_true, Bool.true_and]
          exact Ev.now _
        · simp only [if_pos h0, if_pos h1, if_pos h2, if_neg h3]
          simp only [h0, h1, h2, beq_self_eq_true, Bool.true_and, beq_eq_false_iff_ne.mpr h3, Bool.false_and]
          exact Ev.now _
      · simp only [if_pos h0, if_pos h1, if_neg h2]
        simp only [h0, h1, beq_self_eq_true, Bool.true_and, beq_eq_false_iff_ne.mpr h2, Bool.false_and]
        exact Ev.now _
    · simp only [if_pos h0, if_neg h1]
      simp only [h0, beq_self_eq_true, Bool.true_and, beq_eq_false_iff_ne.mpr h1, Bool.false_and]
      exact Ev.now _
  · simp only [if_neg h0]
    simp only [beq_eq_false_iff_ne.mpr h0, Bool.false_and]
    exact Ev.now _
theorem eqf_l0 {l u : List S91} (hf : fitP l) (hm : l.length ≤ 9223372036854775807) (hu : l.length = u.length) : ∀ (t s : List S91) (i : Nat), l.drop i = t → u.drop i = s → i ≤ l.length → Ev (fun k => api_Patch__74.l0 k u l (l.length : Int) (i : Int)) (patEq t s)
  | [], [], i, h, h', hi => by
    have : i = l.length := by have h2 := congrArg List.length h; simp at h2; omega
    refine Ev.step (f := fun _ => some (patEq [] [])) (fun k => ?_) (Ev.now _)
    rw [api_Patch__74.l0, if_neg (by omega)]
    rfl
  | x :: t, y :: s, i, h, h', hi => by
    obtain ⟨hi1, hd, _⟩ := drop_at h
    obtain ⟨hi2, hd', _⟩ := drop_at h'
    have ih := eqf_l0 hf hm hu t s (i + 1) hd hd' (by omega)
    have hx := hf x (List.mem_of_mem_drop (by rw [h]; exact List.mem_cons_self))
    refine Ev.step (f := fun k => (bitmap_Same_1.f k x.f0 x.f1 x.f2 x.f3 x.f4 y.f0 y.f1 y.f2 y.f3 y.f4).bind fun t395 => (if t395 = true then (api_Patch__74.l0 k u l (l.length : Int) ((i + 1 : Nat) : Int)) else (some false))) (fun k => ?_) (Ev.bind (same1_ev hx) ?_)
    · rw [api_Patch__74.l0, if_pos (by omega), if_pos (by omega), if_pos (by omega), if_pos (by omega), rd91 h, rd91 h', w_next (by omega)]
    · rw [patEq]
      cases patEq1 x y with
      | true => simp only [if_true, Bool.true_and]; exact ih
      | false => simp only [Bool.false_eq_true, if_false, Bool.false_and]; exact Ev.now _
  | [], _ :: _, i, h, h', hi => by
    have h1 := congrArg List.length h
    have h2 := congrArg List.length h'
    simp at h1 h2; omega
  | _ :: _, [], i, h, h', hi => by
    have h1 := congrArg List.length h
    have h2 := congrArg List.length h'
    simp at h1 h2; omega
theorem eqf_ev {l u : List S91} (hf : fitP l) (hm : l.length ≤ 9223372036854775807) : Ev (fun k => api_Patch__74.f k l u) (patEq l u) := by
  unfold api_Patch__74.f
  by_cases h : l.length = u.length
  · simp only [if_pos (show (l.length : Int) = (u.length : Int) by omega)]
    exact eqf_l0 hf hm h l u 0 rfl rfl (Nat.zero_le _)
  · simp only [if_neg (show ¬ (l.length : Int) = (u.length : Int) by omega), patEq_len l u h]
    exact Ev.now _
/-- Whether two pages are equal. -/
def pageEq (a : Bool) (l : List Int) (p : List S91) (b : Bool) (m : List Int) (q : List S91) : Bool := (a == b) && (decide (l = m) && patEq p q)
theorem pageEq_refl (a : Bool) (l : List Int) (p : List S91) : pageEq a l p a l p = true := by simp [pageEq, patEq_refl]
theorem same_ev {a b : Bool} {l m : List Int} {p q : List S91} (hl : l.length ≤ 9223372036854775807) (hf : fitP p) (hm : p.length ≤ 9223372036854775807) : Ev (fun k => bitmap_Same.f k a l p b m q) (pageEq a l p b m q) := by
  unfold bitmap_Same.f pageEq
  cases a == b with
  | false => simp only [Bool.false_eq_true, if_false, Bool.false_and]; exact Ev.now _
  | true =>
    simp only [if_true, Bool.true_and]
    refine Ev.bind (eqs_ev hl) ?_
    by_cases h : l = m
    · simp only [decide_eq_true h, if_true, Bool.true_and]
      exact Ev.bind (eqf_ev hf hm) (Ev.now _)
    · simp only [decide_eq_false h, Bool.false_eq_true, if_false, Bool.false_and]
      exact Ev.now _
theorem eqpage_ev {a b : Bool} {l m : List Int} {p q : List S91} (hl : l.length ≤ 9223372036854775807) : Ev (fun k => dioramaref00_EqPage.f k a l p b m q) (pageEq a l p b m q) := by
  unfold dioramaref00_EqPage.f pageEq dioramaref00_EqPatches.f
  cases a == b with
  | false => simp only [Bool.false_eq_true, if_false, Bool.false_and]; exact Ev.now _
  | true =>
    simp only [if_true, Bool.true_and]
    refine Ev.bind (eqiQ_ev hl) ?_
    by_cases h : l = m
    · simp only [decide_eq_true h, if_true, Bool.true_and, Option.bind_some]
      exact Ev.now _
    · simp only [decide_eq_false h, Bool.false_eq_true, if_false, Bool.false_and]
      exact Ev.now _
end Go.Proofs.Ytaebgjdaoloceaa.PureI
