/- A lemma file: plain facts on wrapped whole numbers, bits and rounds. No condition. -/
import Derived.Test.YtmbhafgnmdfjhaaWWords
import Derived.OpenShut
import Derived.Laws.BitsAllLaws
namespace Go.Proofs.YtmbhafgnmdfjhaaV
open Go.RowKit Go.Proofs.YtmbhafgnmdfjhaaW.PrintWords
theorem w64 {x : Int} (h : -9223372036854775808 ≤ x) (h' : x ≤ 9223372036854775807) : wrap64 x = x := by unfold wrap64; omega
theorem i64b {a : Int} (h : (Lit.int .i64 a).wf = true) : -9223372036854775808 ≤ a ∧ a ≤ 9223372036854775807 := bounds_i64 h
theorem u8b {a : Int} (h : (Lit.int .u8 a).wf = true) : 0 ≤ a ∧ a ≤ 255 := bounds_u8 h
theorem i64_and_one {x : Int} (h : 0 ≤ x) (h' : x ≤ 9223372036854775807) : Go.bits .and .i64 x 1 = x % 2 := by
  have := bits_mask .i64 63 (by decide) (fun n h0 h1 => by rw [IntKind.wrap_i64]; omega) 1 (by decide) x h (by omega)
  simpa using this
/-! Two functions of rounds that come to one answer. -/
def Same {α : Type} (p q : Nat → Option α) (P : α → Prop) : Prop := ∃ r, Ev p r ∧ Ev q r ∧ P r
section
variable {α β : Type} {p q p' q' : Nat → Option α} {P P' : α → Prop} {Q : β → Prop}
theorem Same.of {r : α} (h : Ev p r) (h' : Ev q r) (hp : P r) : Same p q P := ⟨r, h, h', hp⟩
theorem Same.now {r : α} (hp : P r) : Same (fun _ => some r) (fun _ => some r) P := ⟨r, Ev.now r, Ev.now r, hp⟩
theorem Same.mono (h : Same p q P) (hP : ∀ a, P a → P' a) : Same p q P' := by
  obtain ⟨r, h1, h2, h3⟩ := h
  exact ⟨r, h1, h2, hP r h3⟩
theorem Same.step (h : ∀ k, p (k + 1) = p' k) (h' : ∀ k, q (k + 1) = q' k) (s : Same p' q' P) : Same p q P := by
  obtain ⟨r, h1, h2, h3⟩ := s
  exact ⟨r, Ev.step h h1, Ev.step h' h2, h3⟩
theorem Same.stepl (h : ∀ k, p (k + 1) = p' k) (s : Same p' q P) : Same p q P := by
  obtain ⟨r, h1, h2, h3⟩ := s
  exact ⟨r, Ev.step h h1, h2, h3⟩
theorem Same.stepr (h : ∀ k, q (k + 1) = q' k) (s : Same p q' P) : Same p q P := by
  obtain ⟨r, h1, h2, h3⟩ := s
  exact ⟨r, h1, Ev.step h h2, h3⟩
theorem Same.bind {f g : Nat → α → Option β} (s : Same p q P) (h : ∀ a, P a → Same (fun k => f k a) (fun k => g k a) Q) : Same (fun k => (p k).bind (f k)) (fun k => (q k).bind (g k)) Q := by
  obtain ⟨r, h1, h2, h3⟩ := s
  obtain ⟨z, h4, h5, h6⟩ := h r h3
  exact ⟨z, Ev.bind h1 h4, Ev.bind h2 h5, h6⟩
theorem Same.bindl {f : Nat → β → Option α} {g : Nat → Option β} {b : β} (h : Ev g b) (s : Same (fun k => f k b) q P) : Same (fun k => (g k).bind (f k)) q P := by
  obtain ⟨r, h1, h2, h3⟩ := s
  exact ⟨r, Ev.bind h h1, h2, h3⟩
theorem Same.bindr {f : Nat → β → Option α} {g : Nat → Option β} {b : β} (h : Ev g b) (s : Same p (fun k => f k b) P) : Same p (fun k => (g k).bind (f k)) P := by
  obtain ⟨r, h1, h2, h3⟩ := s
  exact ⟨r, h1, Ev.bind h h2, h3⟩
end
theorem bits_or_comm (k : IntKind) (x y : Int) : Go.bits .or k x y = Go.bits .or k y x := by
  unfold Go.bits
  simp only [BitVec.or_comm]
theorem or_pow {v : Int} (i : Nat) (hi : i ≤ 62) (h0 : 0 ≤ v) (h1 : v < 2 ^ i) : Go.bits .or .u64 v (2 ^ i) = v + 2 ^ i := by
  have hp : (2 : Int) ^ i ≤ 2 ^ 62 := by
    have := Nat.pow_le_pow_right (n := 2) (by decide) hi
    exact_mod_cast this
  have hp0 : (0 : Int) < 2 ^ i := Int.pow_pos (by decide)
  have e62 : (2 : Int) ^ 62 = 4611686018427387904 := by decide
  have e64 : (2 : Int) ^ 64 = 18446744073709551616 := by decide
  rw [bits_or_comm, bits_join .u64 64 (by decide) (fun n h h' => by rw [IntKind.wrap_u64]; omega) i (2 ^ i) v (by omega) (by simp) (by omega) h0 h1 (by omega)]
  omega
end Go.Proofs.YtmbhafgnmdfjhaaV
