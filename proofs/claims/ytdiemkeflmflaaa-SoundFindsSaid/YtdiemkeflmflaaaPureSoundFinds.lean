/- What is proved: which entry of any table holds any sample is the reference's. This text: the statement about numbers alone. No condition. -/
import Derived.Test.YtdiemkeflmflaaaVPlain
import Derived.Test.YtdiemkeflmflaaaQSoundx14
namespace Go.Proofs.Ytdiemkeflmflaaa.Pure
open Go.RowKit Go.Proofs.Ytdiemkeflmflaaa.QSound Go.Proofs.YtdiemkeflmflaaaW.PrintWords Go.Proofs.YtdiemkeflmflaaaV
def hit (s : S35) (a : Int) : Prop := s.f0 ≤ a ∧ s.f1 > 0 ∧ a - s.f0 < s.f1
instance (s : S35) (a : Int) : Decidable (hit s a) := by unfold hit; infer_instance
def atF (l : List S35) (a : Int) : Nat → Int × Int
  | 0 => (0, 5)
  | i + 1 => if hit (rd_T35 l (i : Int)) a then ((i : Int), 0) else atF l a i
def big (a : Int) : Prop := -9223372036854775808 ≤ a ∧ a ≤ 9223372036854775807
theorem at_p (l : List S35) (a : Int) (hL : l.length ≤ 1000) (ha : big a) (hb : ∀ i : Nat, i < l.length → big (rd_T35 l (i : Int)).f0 ∧ big (rd_T35 l (i : Int)).f1) : ∀ i : Nat, i ≤ l.length → Ev (fun k => sound_At.l0 k l a ((i : Int) - 1)) (atF l a i)
  | 0, _ => Ev.step (f := fun _ => some (0, 5)) (fun k => by simp only [sound_At.l0]; rw [if_neg (by omega)]) (Ev.now _)
  | i + 1, hi => by
    obtain ⟨h0, h1⟩ := hb i (by omega)
    have ih := at_p l a hL ha hb i (by omega)
    unfold big at *
    have e1 : (((i + 1 : Nat) : Int) - 1) = (i : Int) := by omega
    rw [e1]
    unfold atF
    have hw : wrap64 ((i : Int) - 1) = (i : Int) - 1 := by unfold wrap64; omega
    by_cases c0 : (rd_T35 l (i : Int)).f0 ≤ a
    · by_cases c1 : (rd_T35 l (i : Int)).f1 > 0
      · have e2 : IntKind.u64.wrap (IntKind.u64.wrap a - IntKind.u64.wrap (rd_T35 l (i : Int)).f0) = a - (rd_T35 l (i : Int)).f0 := by
          simp only [IntKind.wrap_u64]; omega
        have e3 : IntKind.u64.wrap (rd_T35 l (i : Int)).f1 = (rd_T35 l (i : Int)).f1 := by
          simp only [IntKind.wrap_u64]; omega
        by_cases c2 : a - (rd_T35 l (i : Int)).f0 < (rd_T35 l (i : Int)).f1
        · rw [if_pos ⟨c0, c1, c2⟩]
          refine Ev.step (f := fun _ => some ((i : Int), 0)) (fun k => ?_) (Ev.now _)
          simp only [sound_At.l0]
          rw [if_pos (by omega), if_pos (by omega), if_pos (by omega), if_pos c0, if_pos c1, e2, e3, if_pos c2]
        · rw [if_neg (fun h => c2 h.2.2)]
          refine Ev.step (fun k => ?_) ih
          simp only [sound_At.l0]
          rw [if_pos (by omega), if_pos (by omega), if_pos (by omega), if_pos c0, if_pos c1, e2, e3, if_neg c2, hw]
      · rw [if_neg (fun h => c1 h.2.1)]
        refine Ev.step (fun k => ?_) ih
        simp only [sound_At.l0]
        rw [if_pos (by omega), if_pos (by omega), if_pos (by omega), if_pos c0, if_neg c1, hw]
    · rw [if_neg (fun h => c0 h.1)]
      refine Ev.step (fun k => ?_) ih
      simp only [sound_At.l0]
      rw [if_pos (by omega), if_pos (by omega), if_pos (by omega), if_neg c0, hw]
abbrev conv (s : S35) : S34 := ⟨s.f0, s.f1, s.f2⟩
theorem rd_conv (l : List S35) (i : Nat) (hi : i < l.length) : rd_T34 (l.map conv) (i : Int) = conv (rd_T35 l (i : Int)) := by
  simp [rd_T34, rd_T35, List.getD_eq_getElem?_getD, List.getElem?_eq_getElem hi]
theorem at_r (l : List S35) (a : Int) (hL : l.length ≤ 1000) (ha : big a) (hb : ∀ i : Nat, i < l.length → big (rd_T35 l (i : Int)).f0 ∧ big (rd_T35 l (i : Int)).f1) : ∀ i : Nat, i ≤ l.length → Ev (fun k => dioramaref16_At.l0 k (l.map conv) a ((i : Int) - 1)) (atF l a i)
  | 0, _ => Ev.step (f := fun _ => some (0, 5)) (fun k => by simp only [dioramaref16_At.l0]; rw [if_neg (by omega)]) (Ev.now _)
  | i + 1, hi => by
    obtain ⟨h0, h1⟩ := hb i (by omega)
    have ih := at_r l a hL ha hb i (by omega)
    unfold big at *
    have e1 : (((i + 1 : Nat) : Int) - 1) = (i : Int) := by omega
    rw [e1]
    unfold atF
    have er := rd_conv l i (by omega)
    have eb : ((l.map conv).length : Int) = (l.length : Int) := by simp
    have hw : wrap64 ((i : Int) - 1) = (i : Int) - 1 := by unfold wrap64; omega
    by_cases c1 : (rd_T35 l (i : Int)).f1 > 0
    · by_cases c0 : (rd_T35 l (i : Int)).f0 ≤ a
      · by_cases c3 : (rd_T35 l (i : Int)).f0 ≥ 0
        · have e2 : wrap64 (a - (rd_T35 l (i : Int)).f0) = a - (rd_T35 l (i : Int)).f0 := by unfold wrap64; omega
          by_cases c2 : a - (rd_T35 l (i : Int)).f0 < (rd_T35 l (i : Int)).f1
          · rw [if_pos ⟨c0, c1, c2⟩]
            refine Ev.step (f := fun _ => some ((i : Int), 0)) (fun k => ?_) (Ev.now _)
            simp only [dioramaref16_At.l0]
            rw [eb, er]
            rw [if_pos (by omega), if_pos (by omega), if_pos (by omega), if_pos c1, if_pos c0, if_pos c3, e2, if_pos c2]
          · rw [if_neg (fun h => c2 h.2.2)]
            refine Ev.step (fun k => ?_) ih
            simp only [dioramaref16_At.l0]
            rw [eb, er]
            rw [if_pos (by omega), if_pos (by omega), if_pos (by omega), if_pos c1, if_pos c0, if_pos c3, e2, if_neg c2, if_neg (show ¬ (rd_T35 l (i : Int)).f0 < 0 by omega), hw]
        · have e2 : wrap64 ((rd_T35 l (i : Int)).f0 + (rd_T35 l (i : Int)).f1) = (rd_T35 l (i : Int)).f0 + (rd_T35 l (i : Int)).f1 := by unfold wrap64; omega
          by_cases c2 : a - (rd_T35 l (i : Int)).f0 < (rd_T35 l (i : Int)).f1
          · rw [if_pos ⟨c0, c1, c2⟩]
            refine Ev.step (f := fun _ => some ((i : Int), 0)) (fun k => ?_) (Ev.now _)
            simp only [dioramaref16_At.l0]
            rw [eb, er]
            rw [if_pos (by omega), if_pos (by omega), if_pos (by omega), if_pos c1, if_pos c0, if_neg c3, if_pos (show (rd_T35 l (i : Int)).f0 < 0 by omega), e2, if_pos (show a < (rd_T35 l (i : Int)).f0 + (rd_T35 l (i : Int)).f1 by omega)]
          · rw [if_neg (fun h => c2 h.2.2)]
            refine Ev.step (fun k => ?_) ih
            simp only [dioramaref16_At.l0]
            rw [eb, er]
            rw [if_pos (by omega), if_pos (by omega), if_pos (by omega), if_pos c1, if_pos c0, if_neg c3, if_pos (show (rd_T35 l (i : Int)).f0 < 0 by omega), e2, if_neg (show ¬ a < (rd_T35 l (i : Int)).f0 + (rd_T35 l (i : Int)).f1 by omega), hw]
      · rw [if_neg (fun h => c0 h.1)]
        refine Ev.step (fun k => ?_) ih
        simp only [dioramaref16_At.l0]
        rw [eb, er]
        rw [if_pos (by omega), if_pos (by omega), if_pos (by omega), if_pos c1, if_neg c0, hw]
    · rw [if_neg (fun h => c1 h.2.1)]
      refine Ev.step (fun k => ?_) ih
      simp only [dioramaref16_At.l0]
      rw [eb, er]
      rw [if_pos (by omega), if_pos (by omega), if_pos (by omega), if_neg c1, hw]
theorem conv_loop (a p q : Int) : ∀ (t pre : List S35), (pre ++ t).length ≤ 1000 → Ev (fun k => dioramaref16_At.f k ((pre ++ t).map conv) a) (p, q) → Ev (fun k => dioramalaw16_SoundFinds.l0 k (pre ++ t) a p q (pre.map conv) (pre.length : Int)) true
  | [], pre, hl, h => by
    refine Ev.step (f := fun k => (dioramaref16_At.f k ((pre ++ []).map conv) a).bind fun b => if p = b.1 then (if q = b.2 then some true else some false) else some false) (fun k => ?_) ?_
    · simp only [dioramalaw16_SoundFinds.l0]
      rw [if_neg (by simp)]
      simp [dioramalaw16_awake.f]
    · exact Ev.bind h (by simpa using Ev.now true)
  | x :: t, pre, hl, h => by
    have ih := conv_loop a p q t (pre ++ [x]) (by simpa using hl) (by simpa using h)
    have e1 : pre ++ [x] ++ t = pre ++ x :: t := by simp
    simp only [List.length_append, List.length_cons] at hl
    have e2 : ((pre ++ [x]).length : Int) = wrap64 ((pre.length : Int) + 1) := by
      simp only [List.length_append, List.length_cons, List.length_nil]
      rw [w64 (by omega) (by omega)]; omega
    have e3 : rd_T35 (pre ++ x :: t) (pre.length : Int) = x := by simp [rd_T35]
    rw [e1, e2, List.map_append] at ih
    refine Ev.step (fun k => ?_) ih
    simp only [dioramalaw16_SoundFinds.l0]
    rw [if_pos (by simp; omega), if_pos (by omega), if_pos (by simp; omega), e3]
    rfl
theorem SoundFinds : ∀ (l0 : List (S35)) (a1 : Int), l0.length ≤ maxLen → (∀ y ∈ l0, ((Lit.int .i64 y.f0).wf = true) ∧ ((Lit.int .i64 y.f1).wf = true) ∧ ((Lit.int .i64 y.f2).wf = true)) → ((Lit.int .i64 a1).wf = true) → ∃ k, dioramalaw16_SoundFinds.f k l0 a1 = some true := by
  intro l a _ hy ha
  have hA : big a := i64b ha
  have hb : ∀ i : Nat, i < l.length → big (rd_T35 l (i : Int)).f0 ∧ big (rd_T35 l (i : Int)).f1 := by
    intro i hi
    have hm : rd_T35 l (i : Int) ∈ l := by simp [rd_T35, List.getD_eq_getElem?_getD, List.getElem?_eq_getElem hi]
    exact ⟨i64b (hy _ hm).1, i64b (hy _ hm).2.1⟩
  by_cases hl : (l.length : Int) > 1000
  · exact ⟨0, by unfold dioramalaw16_SoundFinds.f; rw [if_pos hl]; rfl⟩
  · have hw : wrap64 ((l.length : Int) - 1) = (l.length : Int) - 1 := by unfold wrap64; omega
    have h1 : Ev (fun k => sound_At.f k l a) (atF l a l.length) := by
      unfold sound_At.f
      rw [hw]
      exact at_p l a (by omega) hA hb l.length (Nat.le_refl _)
    have h2 : Ev (fun k => dioramaref16_At.f k (l.map conv) a) (atF l a l.length) := by
      unfold dioramaref16_At.f
      rw [show ((l.map conv).length : Int) = (l.length : Int) by simp, hw]
      exact at_r l a (by omega) hA hb l.length (Nat.le_refl _)
    refine Ev.rounds (r := true) ?_
    unfold dioramalaw16_SoundFinds.f
    simp only [if_neg hl]
    exact Ev.bind h1 (conv_loop a (atF l a l.length).1 (atF l a l.length).2 l [] (by simpa using (by omega : l.length ≤ 1000)) h2)
end Go.Proofs.Ytdiemkeflmflaaa.Pure
