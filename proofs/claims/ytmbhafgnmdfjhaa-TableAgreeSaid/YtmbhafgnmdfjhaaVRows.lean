/- A lemma file: an element of a slice of slices. No condition. -/
import Derived.Test.YtmbhafgnmdfjhaaVPlain
namespace Go.Proofs.YtmbhafgnmdfjhaaV
open Go.RowKit Go.Proofs.YtmbhafgnmdfjhaaW.PrintWords
theorem at_rows {w : World} {e : Nat} {d : Kd Int} {A : Option Addr} {n : Nat} {xs : List (List Int)} (h : Kd.C (Kd.slice e d) w A n xs) (i : Int) (h0 : 0 ≤ i) (h1 : i < n) : ∃ ad A0 c0, A = some ad ∧ w.cell? (ad.add i.toNat) = some (.slice A0 (xs.getD i.toNat []).length c0) ∧ (xs.getD i.toNat []).length ≤ c0 ∧ d.C w A0 (xs.getD i.toNat []).length (xs.getD i.toNat []) := by
  obtain ⟨ad, c, e, _, hK, hc0⟩ := Kd.C_get h ([] : List Int) i h0 h1
  have hc : ∀ j u, c[j]? = some u → w.cell? (ad.add (i.toNat * 1 + j)) = some u := hc0
  obtain ⟨A0, c0, rfl, l0, g0⟩ := hK
  exact ⟨ad, A0, c0, e, by have hq := hc 0 _ rfl; rwa [Nat.mul_one, Nat.add_zero] at hq, l0, g0⟩
theorem any_take {α : Type} {l : List α} {p : α → Bool} {i : Nat} {x : α} (hi : i < l.length) (hx : l[i] = x) (h : (l.take i).any p = false) : (l.take (i + 1)).any p = p x := by
  rw [List.take_add_one, List.any_append, h]
  simp [List.getElem?_eq_getElem hi, hx]
end Go.Proofs.YtmbhafgnmdfjhaaV
