/- A lemma file: what a page's error is, the reference's. No condition. -/
import Derived.Test.YtaebgjdaoloceaaPChkP
import Derived.Test.YtaebgjdaoloceaaQBmpPx6
namespace Go.Proofs.Ytaebgjdaoloceaa.PureD
open Go.RowKit Go.Proofs.Ytaebgjdaoloceaa.QBmpP Go.Proofs.YtaebgjdaoloceaaW.PrintWords Go.Proofs.YtaebgjdaoloceaaW.PrintMore Go.Proofs.YtaebgjdaoloceaaV
theorem in_d (v a b : Int) : dioramaref19_in.f v a b = some (inB v a b) := by
  unfold dioramaref19_in.f inB
  by_cases h : v ≥ a
  · rw [if_pos h, decide_eq_true h]; simp
  · rw [if_neg h, decide_eq_false h]; simp
theorem ev_all {l : List Int} {a b : Int} (hl : l.length ≤ 9223372036854775807) : Ev (fun k => dioramaref19_all.f k l a b) (l.all (inB · a b)) := by
  unfold dioramaref19_all.f
  refine Ev.list (l := l) (f := fun k i => dioramaref19_all.l0 k l a b (i : Int)) (fun _ t => t.all (inB · a b)) ?_ ?_
  · exact Ev.step (f := fun _ => some true) (fun k => by rw [dioramaref19_all.l0, if_neg (by omega)]) (Ev.now _)
  · intro i x t h ih
    have hi := (drop_at h).1
    have ex := rd_drop h
    rw [List.all_cons]
    cases hb : inB x a b with
    | true =>
      refine Ev.step (fun k => ?_) ih
      rw [dioramaref19_all.l0, if_pos (by omega), if_pos (by omega), ex, in_d, hb, w_next (by omega)]
      rfl
    | false =>
      refine Ev.step (f := fun _ => some false) (fun k => ?_) (Ev.now _)
      rw [dioramaref19_all.l0, if_pos (by omega), if_pos (by omega), ex, in_d, hb]
      rfl
/-! What is valid. -/
theorem place_r (x : S91) : dioramaref19_place.f x.f0 x.f1 x.f2 x.f3 x.f4 = some (if placeB x = true then 0 else 1) := by
  unfold dioramaref19_place.f placeB
  simp only [in_d, Option.bind_some]
  cases inB x.f0 0 999 <;> cases inB x.f1 0 999 <;> cases inB x.f2 1 64 <;> cases inB x.f3 1 64 <;> rfl
section
variable {pal : List Int} {pp : List S91}
theorem ev_rcheck (hp : pal.length ≤ 9223372036854775807) (hl : pp.length ≤ 9223372036854775807) (hf : fit pp) (cl : Bool) : Ev (fun k => dioramaref19_Check.f k cl pal pp) (checkF pal pp) := by
  have hgo : Ev (fun k => dioramaref19_Check.j0 k false cl pal pp) (if pal.all (inB · 0 16777215) = true then checkL pp else 1) := by
    refine Ev.step (f := fun k => (dioramaref19_all.f k pal 0 16777215).bind fun t375 => (if t375 = true then (dioramaref19_Check.l0 k 0 cl pal pp) else (some 1))) (fun k => by rw [dioramaref19_Check.j0, if_neg (by simp)]) ?_
    refine Ev.bind (ev_all hp) ?_
    cases pal.all (inB · 0 16777215) with
    | false => exact Ev.now _
    | true =>
      simp only [if_true]
      refine Ev.list (l := pp) (f := fun k i => dioramaref19_Check.l0 k (i : Int) cl pal pp) (fun _ t => checkL t) ?_ ?_
      · exact Ev.step (f := fun _ => some 0) (fun k => by rw [dioramaref19_Check.l0, if_neg (by omega)]) (Ev.now _)
      · intro i x t h ih
        have hi := (drop_at h).1
        have hno : Ev (fun k => dioramaref19_Check.j2 k (i : Int) true cl pal pp x.f0 x.f1 x.f2 x.f3 x.f4) 1 := Ev.step (f := fun _ => some 1) (fun k => by rw [dioramaref19_Check.j2, if_pos rfl]) (Ev.now _)
        refine Ev.step (f := fun k => (dioramaref19_place.f x.f0 x.f1 x.f2 x.f3 x.f4).bind fun t378 => (if t378 = 0 then ((dioramaref19_all.f k x.f4 0 15).bind fun t379 => (dioramaref19_Check.j2 k (i : Int) (!t379) cl pal pp x.f0 x.f1 x.f2 x.f3 x.f4)) else (dioramaref19_Check.j2 k (i : Int) true cl pal pp x.f0 x.f1 x.f2 x.f3 x.f4))) (fun k => ?_) ?_
        · rw [dioramaref19_Check.l0, if_pos (by omega), if_pos (by omega), rd91 h]
        · simp only [place_r, Option.bind_some]
          rw [checkL]
          unfold patchE
          cases hpl : placeB x with
          | false =>
            simp only [Bool.false_eq_true, if_false]
            rw [if_neg (by decide)]
            exact hno
          | true =>
            simp only [if_true]
            refine Ev.bind (ev_all (fit_at hf h)) ?_
            cases hb : x.f4.all (inB · 0 15) with
            | false =>
              simp only [Bool.false_eq_true, if_false]
              rw [if_neg (by decide)]
              exact hno
            | true =>
              simp only [if_true]
              by_cases hw : (x.f4.length : Int) = x.f2 * x.f3
              · rw [if_pos hw, if_pos rfl]
                refine Ev.step (fun k => ?_) ih
                rw [dioramaref19_Check.j2, if_neg (by simp), (wh_patch hpl).1, if_pos hw, w_next (by omega)]
              · rw [if_neg hw, if_neg (by decide)]
                refine Ev.step (f := fun _ => some 4) (fun k => ?_) (Ev.now _)
                rw [dioramaref19_Check.j2, if_neg (by simp), (wh_patch hpl).1, if_neg hw]
  have hno : Ev (fun k => dioramaref19_Check.j0 k true cl pal pp) 2 := Ev.step (f := fun _ => some 2) (fun k => by rw [dioramaref19_Check.j0, if_pos rfl]) (Ev.now _)
  unfold dioramaref19_Check.f checkF
  by_cases h1 : pal.length > 16
  · simp only [if_pos (show (pal.length : Int) > 16 by omega), if_pos (show pal.length > 16 ∨ pp.length > 8 from .inl h1)]; exact hno
  · simp only [if_neg (show ¬ (pal.length : Int) > 16 by omega)]
    by_cases h2 : pp.length > 8
    · simp only [decide_eq_true (show (pp.length : Int) > 8 by omega), if_pos (show pal.length > 16 ∨ pp.length > 8 from .inr h2)]; exact hno
    · simp only [decide_eq_false (show ¬ (pp.length : Int) > 8 by omega), if_neg (show ¬ (pal.length > 16 ∨ pp.length > 8) by omega)]; exact hgo
end
end Go.Proofs.Ytaebgjdaoloceaa.PureD
