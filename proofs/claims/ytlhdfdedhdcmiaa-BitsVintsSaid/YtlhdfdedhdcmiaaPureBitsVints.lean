/- What is proved: the vint at any place, signed or not, and the vint of any number in any number of bytes, are the chapter's, with their errors; so is the unknown one. This text: the statement about numbers and lists alone. No condition. -/
import Derived.Test.YtlhdfdedhdcmiaaPVint
import Derived.Test.YtlhdfdedhdcmiaaVAwake01
import Derived.Test.YtlhdfdedhdcmiaaQBitsx39
set_option linter.unusedSimpArgs false
namespace Go.Proofs.Ytlhdfdedhdcmiaa.Pure
open Go.RowKit Go.Proofs.Ytlhdfdedhdcmiaa.QBits Go.Proofs.YtlhdfdedhdcmiaaW.PrintWords Go.Proofs.YtlhdfdedhdcmiaaV
theorem BitsVints : ∀ (l0_0 : List (Int)) (a0_1 : Int) (a0_2 : Int) (a0_3 : Int), l0_0.length ≤ maxLen → (∀ y ∈ l0_0, (Lit.int .u8 y).wf = true) → ((Lit.int .i64 a0_1).wf = true) → ((Lit.int .i64 a0_2).wf = true) → ((Lit.int .i64 a0_3).wf = true) → ∃ k, dioramalaw01_BitsVints.f k l0_0 a0_1 a0_2 a0_3 = some true := by
  intro l a n v hl hb _ _ hv
  have hl' : l.length ≤ 9223372036854775807 := by simpa only [maxLen] using hl
  have hb' : ∀ y ∈ l, 0 ≤ y ∧ y ≤ 255 := fun y hy => u8b (hb y hy)
  have hv' := i64b hv
  have j3 : Ev (fun k => dioramalaw01_BitsVints.j3 k n false) true := by
    obtain ⟨r, h1, h2, h3⟩ := unknown_same (n := n)
    refine Ev.step (f := fun k => (bits_Unknown.f k n).bind _) (fun k => by simp only [dioramalaw01_BitsVints.j3]; rw [if_neg (by simp)]) (Ev.bind h1 (Ev.bind h2 (Ev.bind (eqb_ev (l := r.1) (u := r.1) (by omega)) ?_)))
    simp only [decide_true, if_pos]
    exact Ev.bind awake_ev (Ev.now _)
  have j2 : Ev (fun k => dioramalaw01_BitsVints.j2 k n v false) true := by
    obtain ⟨r, h1, h2, h3⟩ := ps_same (v := v) (n := n) hv'.1 hv'.2
    refine Ev.step (f := fun k => (bits_PutSigned.f k v n).bind _) (fun k => by simp only [dioramalaw01_BitsVints.j2]; rw [if_neg (by simp)]) (Ev.bind h1 (Ev.bind h2 (Ev.bind (eqb_ev (l := r.1) (u := r.1) (by omega)) ?_)))
    simp only [decide_true, if_pos, bne_self_eq_false]
    exact j3
  have j1 : Ev (fun k => dioramalaw01_BitsVints.j1 k n v false) true := by
    obtain ⟨r, h1, h2, h3⟩ := pv_same (v := v) (n := n) hv'.2
    refine Ev.step (f := fun k => (bits_PutVint.f k v n).bind _) (fun k => by simp only [dioramalaw01_BitsVints.j1]; rw [if_neg (by simp)]) (Ev.bind h1 (Ev.bind h2 (Ev.bind (eqb_ev (l := r.1) (u := r.1) (by omega)) ?_)))
    simp only [decide_true, if_pos, bne_self_eq_false]
    exact j2
  have j0 : Ev (fun k => dioramalaw01_BitsVints.j0 k l a n v false) true := by
    obtain ⟨r, h1, h2, _⟩ := signed_same (l := l) (a := a) hl' hb'
    refine Ev.step (f := fun k => (bits_Signed.f k l a).bind _) (fun k => by simp only [dioramalaw01_BitsVints.j0]; rw [if_neg (by simp)]) (Ev.bind h1 (Ev.bind h2 ?_))
    simp only [if_pos, bne_self_eq_false]
    exact j1
  apply Ev.rounds (g := fun k => dioramalaw01_BitsVints.f k l a n v)
  unfold dioramalaw01_BitsVints.f
  by_cases h : (l.length : Int) > 4000
  · simp only [if_pos h]; exact Ev.now _
  · simp only [if_neg h]
    obtain ⟨r, h1, h2, _⟩ := vint_same (l := l) (a := a) hl' hb'
    refine Ev.bind h1 (Ev.bind h2 ?_)
    simp only [if_pos, bne_self_eq_false, Bool.false_eq_true, if_false]
    exact j0
end Go.Proofs.Ytlhdfdedhdcmiaa.Pure
