/- What is proved: each of any calls of a reader of any bytes returns the number or the error of the chapter, and leaves it where the chapter says. This text: the statement about numbers and lists alone. No condition. -/
import Derived.Test.YtlhdfdedhdcmiaaPReader
import Derived.Test.YtlhdfdedhdcmiaaVAwake01
import Derived.Test.YtlhdfdedhdcmiaaQBitsx46
namespace Go.Proofs.Ytlhdfdedhdcmiaa.Pure
open Go.RowKit Go.Proofs.Ytlhdfdedhdcmiaa.QBits Go.Proofs.YtlhdfdedhdcmiaaW.PrintWords Go.Proofs.YtlhdfdedhdcmiaaV
theorem alike_two {b : List Int} {P R : Nat → Option (Int × Int × Int)} (h : Alike b P R) : ∃ a : Nat, a ≤ 8 * b.length ∧ Ev (fun k => (P k).bind fun p => (R k).bind fun q => if p = q then some p.2.2 else none) (a : Int) := by
  obtain ⟨v, e, a, ha, h1, h2⟩ := h
  refine ⟨a, ha, Ev.bind h1 (Ev.bind h2 ?_)⟩
  simp only [if_true]
  exact Ev.now _
theorem readStep_ev {b : List Int} {a : Nat} {o : S56} (hl : b.length ≤ 4000) (hb : ∀ y ∈ b, 0 ≤ y ∧ y ≤ 255) (ha : a ≤ 8 * b.length) (h1 : o.f1 ≤ 9223372036854775807) (h2 : o.f2 ≤ 9223372036854775807) : ∃ a' : Nat, a' ≤ 8 * b.length ∧ Ev (fun k => readStep k b (a : Int) o) (a' : Int) := by
  unfold readStep
  by_cases d0 : o.f0 = 0
  · simp only [if_pos d0]; exact alike_two (get_alike hl hb ha)
  · simp only [if_neg d0]
    by_cases d1 : o.f0 = 1
    · simp only [if_pos d1]; exact alike_two (unary_alike hl hb ha h1)
    · simp only [if_neg d1]
      by_cases d2 : o.f0 = 2
      · simp only [if_pos d2]; exact alike_two (rice_alike hl hb ha h2)
      · simp only [if_neg d2]
        by_cases d3 : o.f0 = 3
        · simp only [if_pos d3]; exact alike_two (grow_alike hl hb ha)
        · simp only [if_neg d3]
          obtain ⟨a', h3, h4, h5⟩ := align_alike hl ha
          refine ⟨a', h3, 0, fun k _ => ?_⟩
          show ((bits_Reader_Align.f b (a : Int)).bind _) = _
          rw [h4, h5]
          simp
theorem readLoop_ev {b : List Int} (hl : b.length ≤ 4000) (hb : ∀ y ∈ b, 0 ≤ y ∧ y ≤ 255) : ∀ (l : List S56) (a : Nat), a ≤ 8 * b.length → (∀ o ∈ l, o.f1 ≤ 9223372036854775807 ∧ o.f2 ≤ 9223372036854775807) → Ev (fun k => readLoop k b (a : Int) l) ()
  | [], _, _, _ => Ev.now _
  | o :: t, a, ha, hm => by
    obtain ⟨a', h1, h2⟩ := readStep_ev hl hb ha (hm o (by simp)).1 (hm o (by simp)).2
    exact Ev.bind h2 (readLoop_ev hl hb t a' h1 (fun o ho => hm o (by simp [ho])))
theorem BitsReads : ∀ (l0 : List (Int)) (l1 : List (S56)), l0.length ≤ maxLen → (∀ x0 ∈ l0, (Lit.int .u8 x0).wf = true) → l1.length ≤ maxLen → (∀ x0 ∈ l1, ((Lit.int .i64 x0.f0).wf = true) ∧ ((Lit.int .i64 x0.f1).wf = true) ∧ ((Lit.int .i64 x0.f2).wf = true)) → ∃ k, dioramalaw01_BitsReads.f k l0 l1 = some true := by
  intro b l hl0 hb _ hm
  apply Ev.rounds (g := fun k => dioramalaw01_BitsReads.f k b l)
  unfold dioramalaw01_BitsReads.f
  by_cases h : (b.length : Int) > 4000
  · simp only [if_pos h]; exact Ev.now _
  · simp only [if_neg h]
    by_cases h2 : (l.length : Int) > 200
    · simp only [if_pos h2]; exact Ev.now _
    · simp only [if_neg h2]
      exact Ev.bind (readLoop_ev (by omega) (fun y hy => u8b (hb y hy)) l 0 (by omega) (fun o ho => ⟨(i64b (hm o ho).2.1).2, (i64b (hm o ho).2.2).2⟩)) awake_ev
end Go.Proofs.Ytlhdfdedhdcmiaa.Pure
