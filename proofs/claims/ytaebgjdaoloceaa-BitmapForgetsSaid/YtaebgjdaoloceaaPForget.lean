/- A lemma file: what was drawn before a page with Clear and a palette does not matter. No condition. -/
import Derived.Test.YtaebgjdaoloceaaPComp
namespace Go.Proofs.Ytaebgjdaoloceaa.PureD
open Go.RowKit Go.Proofs.Ytaebgjdaoloceaa.QBmpF Go.Proofs.YtaebgjdaoloceaaW.PrintWords Go.Proofs.YtaebgjdaoloceaaW.PrintMore Go.Proofs.YtaebgjdaoloceaaV
theorem goes_bad {w h : Int} {pal px : List Int} {l : List S51} (e : (goesF w h pal px l).2.2.2.2 ≠ 0) : (goesF w h pal px l).2.2.2.2 ≠ 0 := e
/-- A drawing that went well keeps the sizes. -/
theorem draw_keeps {w h : Int} {pal px : List Int} {cl : Bool} {pp : List Int} {ps : List S91} (e : (drawF w h pal px cl pp ps).2.2.2.2 = 0) : (drawF w h pal px cl pp ps).1 = w ∧ (drawF w h pal px cl pp ps).2.1 = h ∧ (drawF w h pal px cl pp ps).2.2.2.1.length = px.length := by
  unfold drawF at e ⊢
  split at e
  · rename_i hv
    rw [if_pos hv]
    split at e
    · rename_i hc
      rw [if_pos hc]
      refine ⟨rfl, rfl, ?_⟩
      show (ps.foldl (patchN w h) (if cl = true then List.replicate px.length (-1) else px)).length = px.length
      rw [patches_len]
      split <;> simp
    · rename_i hc; exact absurd e hc
  · simp at e
theorem goes_append : ∀ (a b : List S51) (w h : Int) (pal px : List Int), (goesF w h pal px (a ++ b)).2.2.2.2 = 0 → ∃ pal' px', px'.length = px.length ∧ goesF w h pal px (a ++ b) = goesF w h pal' px' b
  | [], b, w, h, pal, px, _ => ⟨pal, px, rfl, rfl⟩
  | p :: t, b, w, h, pal, px, e => by
    rw [List.cons_append, goesF] at e ⊢
    by_cases hz : (drawF w h pal px p.f0 p.f1 p.f2).2.2.2.2 = 0
    · rw [if_pos hz] at e ⊢
      obtain ⟨k1, k2, k3⟩ := draw_keeps hz
      rw [k1, k2] at e ⊢
      obtain ⟨pal', px', h1, h2⟩ := goes_append t b w h _ _ e
      exact ⟨pal', px', by rw [h1, k3], h2⟩
    · rw [if_neg hz] at e
      exact absurd e hz
/-- What was there before does not matter. -/
theorem draw_same {w h : Int} {pal px pal' px' : List Int} {pp : List Int} {ps : List S91} (hp : 0 < pp.length) (e : (drawF w h pal px true pp ps).2.2.2.2 = 0) (hv : validF w h pal' px' = true) (hl : px'.length = px.length) : drawF w h pal' px' true pp ps = drawF w h pal px true pp ps := by
  unfold drawF at e ⊢
  split at e
  · rename_i hv2
    rw [if_pos hv, if_pos hv2, if_pos hp, if_pos hp, if_pos rfl, if_pos rfl, hl]
  · simp at e
theorem valid_empty {w h : Int} (h1 : inB w 1 200 = true) (h2 : inB h 1 200 = true) : validF w h [] (List.replicate (w * h).toNat (-1)) = true := by
  have hw := wh_wrap h1 h2
  unfold validF
  rw [h1, h2]
  simp only [Bool.true_and, List.length_nil, List.all_nil, List.length_replicate, Bool.and_eq_true, decide_eq_true_eq]
  refine ⟨by decide, by omega, ?_⟩
  rw [List.all_eq_true]
  intro x hx
  rw [List.eq_of_mem_replicate hx]
  decide
theorem forgets {l b : List S51} {pp : List Int} {ps : List S91} {w h : Int} (hp : 0 < pp.length) (e : (composeF (l ++ (⟨true, pp, ps⟩ :: b)) w h).2.2.2.2 = 0) : composeF (l ++ (⟨true, pp, ps⟩ :: b)) w h = composeF (⟨true, pp, ps⟩ :: b) w h := by
  unfold composeF at e ⊢
  by_cases hz : (emptyF w h).2.2.2.2 = 0
  · rw [if_pos hz] at e ⊢
    rw [if_pos hz]
    unfold emptyF at hz e ⊢
    by_cases h1 : inB w 1 200 = true
    · rw [if_pos h1] at hz e ⊢
      by_cases h2 : inB h 1 200 = true
      · rw [if_pos h2] at hz e ⊢
        simp only at e ⊢
        obtain ⟨pal', px', k1, k2⟩ := goes_append _ _ _ _ _ _ e
        rw [k2] at e ⊢
        rw [goesF] at e
        rw [goesF, goesF]
        by_cases hd : (drawF w h pal' px' true pp ps).2.2.2.2 = 0
        · have hs := draw_same (pal' := []) (px' := List.replicate (w * h).toNat (-1)) hp hd (valid_empty h1 h2) k1.symm
          simp only [hs]
        · simp only [if_neg hd] at e
          exact absurd e hd
      · rw [if_neg h2] at hz; simp at hz
    · rw [if_neg h1] at hz; simp at hz
  · rw [if_neg hz] at e
    exact absurd e hz
end Go.Proofs.Ytaebgjdaoloceaa.PureD
