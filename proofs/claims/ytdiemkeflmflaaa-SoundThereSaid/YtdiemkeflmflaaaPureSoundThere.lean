/- What is proved: what a predictor leaves gives the numbers back. This text: the statement about numbers alone. No condition. -/
import Derived.Test.YtdiemkeflmflaaaPEqi
import Derived.Test.YtdiemkeflmflaaaPThere
import Derived.Test.YtdiemkeflmflaaaQSoundx18
namespace Go.Proofs.Ytdiemkeflmflaaa.Pure
open Go.RowKit Go.Proofs.Ytdiemkeflmflaaa.QSound Go.Proofs.YtdiemkeflmflaaaW.PrintWords Go.Proofs.YtdiemkeflmflaaaV Go.Proofs.Ytdiemkeflmflaaa.PureI
theorem there_l0 (l wm : List Int) (o : Int) (hl : wm.length ≤ 20000) : ∀ (t pre : List Int), (pre ++ t).length ≤ 20000 → pre.any (out 2147483648) = false → ((pre ++ t).any (out 2147483648) = false → restF wm (pre ++ t) o = (l, 0)) → l.length ≤ 20000 →
    Ev (fun k => dioramalaw16_SoundThere.l0 k l o wm (pre ++ t) (pre.length : Int)) true
  | [], pre, h0, h1, h2, h3 => by
    have e : restF wm (pre ++ []) o = (l, 0) := h2 (by simpa using h1)
    refine Ev.step (f := fun k => (dioramaref00_EqInts.f k l l).bind fun t => if t = true then some true else some false) (fun k => ?_) (Ev.bind (eqi_ev (by omega)) (by simpa using Ev.now true))
    simp only [dioramalaw16_SoundThere.l0, sound_Restore.f]
    rw [if_neg (by simp), if_pos (by omega), e]
    simp [dioramalaw16_awake.f]
  | a :: t, pre, h0, h1, h2, h3 => by
    have e1 : pre ++ [a] ++ t = pre ++ a :: t := by simp
    have hl2 : pre.length + (t.length + 1) ≤ 20000 := by simpa using h0
    have e2 : ((pre ++ [a]).length : Int) = wrap64 ((pre.length : Int) + 1) := by
      simp only [List.length_append, List.length_cons, List.length_nil]
      rw [w64 (by omega) (by omega)]; omega
    have e3 : rd (pre ++ a :: t) (pre.length : Int) = a := by simp [rd]
    by_cases c1 : a > 2147483648
    · refine Ev.step (f := fun _ => some true) (fun k => ?_) (Ev.now _)
      simp only [dioramalaw16_SoundThere.l0]
      rw [if_pos (by simp; omega), if_pos (by omega), e3, if_pos c1]
      rfl
    · by_cases c2 : a < -2147483648
      · refine Ev.step (f := fun _ => some true) (fun k => ?_) (Ev.now _)
        simp only [dioramalaw16_SoundThere.l0]
        rw [if_pos (by simp; omega), if_pos (by omega), e3, if_neg c1, if_pos c2]
        rfl
      · have ih := there_l0 l wm o hl t (pre ++ [a]) (by rw [e1]; exact h0) (by rw [List.any_append, h1]; simp [out]; omega) (by rw [e1]; exact h2) h3
        rw [e1, e2] at ih
        refine Ev.step (fun k => ?_) ih
        simp only [dioramalaw16_SoundThere.l0]
        rw [if_pos (by simp; omega), if_pos (by omega), e3, if_neg c1, if_neg c2]
theorem SoundThere : dioramalaw16_SoundThere.Pure := by
  intro l o _ h1 _ _
  by_cases hl : (l.length : Int) > 20000
  · exact ⟨0, by unfold dioramalaw16_SoundThere.f; rw [if_pos hl]; rfl⟩
  · refine Ev.rounds (r := true) ?_
    unfold dioramalaw16_SoundThere.f sound_Left.f
    simp only [if_neg hl, Option.bind_some]
    by_cases he : (leftF l o).2.2 = 0
    · simp only [if_pos he]
      have hL : (leftF l o).1.length ≤ 20000 ∧ (leftF l o).2.1.length ≤ 20000 := by
        unfold leftF
        split
        · simp
        · split
          · simp
          · simp only [leftS_length, List.length_take]; omega
      exact there_l0 l (leftF l o).1 o hL.1 (leftF l o).2.1 [] (by simpa using hL.2) (by simp) (fun hd => restF_left l o he (by simpa using hd)) (by omega)
    · simp only [if_neg he]
      exact Ev.now true
end Go.Proofs.Ytdiemkeflmflaaa.Pure
