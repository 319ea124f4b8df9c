/- What is proved: any part of any sound, any two sounds one behind the other, and whether they are the same, are the reference's. This text: the statement about numbers alone. No condition. -/
import Derived.Test.YtdiemkeflmflaaaPCuts
import Derived.Test.YtdiemkeflmflaaaLCuts
namespace Go.Proofs.Ytdiemkeflmflaaa.Pure
open Go.RowKit Go.Proofs.Ytdiemkeflmflaaa.QSound Go.Proofs.YtdiemkeflmflaaaW.PrintWords Go.Proofs.YtdiemkeflmflaaaV Go.Proofs.Ytdiemkeflmflaaa.PureI
theorem cutF_small {b : Int} {l : List (List Int)} {p q : Int} : (cutF b l p q).2.1.length ≤ 9223372036854775807 ∧ small (cutF b l p q).2.1 := by
  unfold cutF
  split
  · rename_i h
    obtain ⟨hb, hL, hx, hn, hv⟩ := check_ok h
    split
    · exact ⟨by simp, fun x hx => by simp at hx⟩
    · refine ⟨by simp; omega, fun x hm => ?_⟩
      obtain ⟨c, hc, rfl⟩ := List.mem_map.mp hm
      have := hx c hc
      simp [piece]; omega
  · exact ⟨by simp, fun x hx => by simp at hx⟩
theorem zip_small : ∀ (l u : List (List Int)), (∀ x ∈ l, x.length ≤ 16384) → (∀ x ∈ u, x.length ≤ 16384) → ∀ x ∈ l.zipWith (· ++ ·) u, x.length ≤ 9223372036854775807
  | [], _, _, _ => by simp
  | _ :: _, [], _, _ => by simp
  | a :: l, c :: u, h, h' => by
    intro x hx
    simp only [List.zipWith_cons_cons, List.mem_cons] at hx
    rcases hx with rfl | hx
    · have := h a (by simp)
      have := h' c (by simp)
      simp; omega
    · exact zip_small l u (fun y hy => h y (by simp [hy])) (fun y hy => h' y (by simp [hy])) x hx
theorem joinF_small {b b' : Int} {l l' : List (List Int)} : (joinF b l b' l').2.1.length ≤ 9223372036854775807 ∧ small (joinF b l b' l').2.1 := by
  unfold joinF
  split
  · rename_i h
    split
    · rename_i h'
      obtain ⟨hb, hL, hx, hn, hv⟩ := check_ok h
      obtain ⟨hb', hL', hx', hn', hv'⟩ := check_ok h'
      split
      · split
        · exact ⟨by simp, fun x hx => by simp at hx⟩
        · exact ⟨by simp; omega, zip_small l l' (fun x hm => by have := hx x hm; omega) (fun x hm => by have := hx' x hm; omega)⟩
      · exact ⟨by simp, fun x hx => by simp at hx⟩
    · exact ⟨by simp, fun x hx => by simp at hx⟩
  · exact ⟨by simp, fun x hx => by simp at hx⟩
theorem cuts_ev {b b' : Int} {l l' : List (List Int)} (p q : Int) (hl : l.length ≤ 9223372036854775807) (hs : small l) (hl' : l'.length ≤ 9223372036854775807) (hs' : small l') : Ev (fun k => dioramalaw16_SoundCuts.f k b l b' l' p q) true := by
  unfold dioramalaw16_SoundCuts.f
  obtain ⟨g1, h1⟩ := ev_long (b := b) hl
  obtain ⟨g2, h2⟩ := ev_long (b := b') hl'
  refine Ev.bind h1 (Ev.bind h2 (Ev.bind ev_cut (Ev.bind (ev_rcut hs) (Ev.bind ev_join (Ev.bind (ev_rjoin hs hs') ?_)))))
  refine Ev.bind (ev_eqwave cutF_small.1 cutF_small.2) (Ev.bind (ev_eqwave joinF_small.1 joinF_small.2) (Ev.bind (ev_same hl hs) (Ev.bind (ev_eqwave hl hs) ?_)))
  simp only [decide_true, Bool.and_self, and_self, if_true]
  exact Ev.now _
theorem SoundCuts : ∀ (a0_0 : Int) (l0_1 : List (List (Int))) (a1_0 : Int) (l1_1 : List (List (Int))) (a2_0 : Int) (a2_1 : Int), ((Lit.int .i64 a0_0).wf = true) → l0_1.length ≤ maxLen → (∀ y ∈ l0_1, y.length ≤ maxLen ∧ ∀ x0 ∈ y, (Lit.int .i64 x0).wf = true) → ((Lit.int .i64 a1_0).wf = true) → l1_1.length ≤ maxLen → (∀ y ∈ l1_1, y.length ≤ maxLen ∧ ∀ x0 ∈ y, (Lit.int .i64 x0).wf = true) → ((Lit.int .i64 a2_0).wf = true) → ((Lit.int .i64 a2_1).wf = true) → ∃ k, dioramalaw16_SoundCuts.f k a0_0 l0_1 a1_0 l1_1 a2_0 a2_1 = some true := by
  intro b l b' l' p q _ hl hx _ hl' hx' _ _
  exact Ev.rounds (cuts_ev p q hl (fun x h => (hx x h).1) hl' (fun x h => (hx' x h).1))
end Go.Proofs.Ytdiemkeflmflaaa.Pure
