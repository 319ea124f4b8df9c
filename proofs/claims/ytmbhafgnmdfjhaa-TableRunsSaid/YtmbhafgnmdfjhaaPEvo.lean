/- A lemma file: loops, by what is left of a list. No condition. -/
import Derived.Test.YtmbhafgnmdfjhaaVPlain
import Derived.Test.YtmbhafgnmdfjhaaWMore
namespace Go.Proofs.YtmbhafgnmdfjhaaV
open Go.RowKit Go.Proofs.YtmbhafgnmdfjhaaW.PrintWords Go.Proofs.YtmbhafgnmdfjhaaW.PrintMore
section
variable {ρ α : Type}
theorem drop_at {l t : List α} {i : Nat} {x : α} (h : l.drop i = x :: t) : i < l.length ∧ l.drop (i + 1) = t ∧ ∀ d, l.getD i d = x := by
  have hi : i < l.length := by
    refine Nat.lt_of_not_le (fun hn => ?_)
    rw [List.drop_eq_nil_of_le hn] at h; cases h
  have h2 : l.drop i = l[i] :: l.drop (i + 1) := List.drop_eq_getElem_cons hi
  rw [h2] at h
  injection h with h3 h4
  exact ⟨hi, h4, fun d => by rw [List.getD_eq_getElem?_getD, List.getElem?_eq_getElem hi]; exact h3⟩
theorem rd_drop {l t : List Int} {i : Nat} {x : Int} (h : l.drop i = x :: t) : rd l (i : Int) = x := by
  show l.getD (i : Int).toNat 0 = x
  rw [Int.toNat_natCast]; exact (drop_at h).2.2 0
theorem Ev.upto {f : Nat → Nat → Option ρ} {r : ρ} {m : Nat} (hs : ∀ i, i < m → Ev (fun k => f k (i + 1)) r → Ev (fun k => f k i) r) (he : Ev (fun k => f k m) r) : ∀ d n, n + d = m → Ev (fun k => f k n) r
  | 0, n, h => by rw [Nat.add_zero] at h; rw [h]; exact he
  | d + 1, n, h => hs n (by omega) (Ev.upto hs he d (n + 1) (by omega))
theorem Ev.all {f : Nat → Nat → Option ρ} {r : ρ} (m : Nat) (hs : ∀ i, i < m → Ev (fun k => f k (i + 1)) r → Ev (fun k => f k i) r) (he : Ev (fun k => f k m) r) : Ev (fun k => f k 0) r := Ev.upto hs he m 0 (by omega)
theorem Ev.drops {l : List α} {f : Nat → Nat → Option ρ} {g : Nat → List α → ρ} (he : Ev (fun k => f k l.length) (g l.length [])) (hs : ∀ i x t, l.drop i = x :: t → Ev (fun k => f k (i + 1)) (g (i + 1) t) → Ev (fun k => f k i) (g i (x :: t))) : ∀ t i, l.drop i = t → i ≤ l.length → Ev (fun k => f k i) (g i t)
  | [], i, h, hi => by
    have : i = l.length := by have h2 := congrArg List.length h; simp at h2; omega
    rw [this]; exact he
  | x :: t, i, h, hi => hs i x t h (Ev.drops he hs t (i + 1) (drop_at h).2.1 (drop_at h).1)
theorem Ev.list {l : List α} {f : Nat → Nat → Option ρ} (g : Nat → List α → ρ) (he : Ev (fun k => f k l.length) (g l.length [])) (hs : ∀ i x t, l.drop i = x :: t → Ev (fun k => f k (i + 1)) (g (i + 1) t) → Ev (fun k => f k i) (g i (x :: t))) : Ev (fun k => f k 0) (g 0 l) :=
  Ev.drops he hs l 0 rfl (Nat.zero_le _)
end
theorem w_next {i : Nat} (h : i < 9223372036854775807) : wrap64 ((i : Int) + 1) = ((i + 1 : Nat) : Int) := by rw [w64 (by omega) (by omega)]; omega
theorem mn_eq (a b : Int) : mn a b = min a b := by unfold mn; split <;> omega
theorem mx_eq (a b : Int) : mx a b = max a b := by unfold mx; split <;> omega
/-- The place of the first one that is as p says, or -1. -/
def idxF (p : Int → Bool) : Nat → List Int → Int
  | _, [] => -1
  | i, x :: t => if p x = true then (i : Int) else idxF p (i + 1) t
theorem idxF_any (p : Int → Bool) : ∀ (i : Nat) (l : List Int), decide (idxF p i l ≥ 0) = l.any p
  | i, [] => rfl
  | i, x :: t => by
    rw [idxF, List.any_cons]
    cases h : p x with
    | true => rw [if_pos rfl]; simp
    | false => rw [if_neg (by simp), idxF_any p (i + 1) t]; simp
def inB (v a b : Int) : Bool := decide (a ≤ v) && decide (v ≤ b)
theorem inB_iff {v a b : Int} : inB v a b = true ↔ a ≤ v ∧ v ≤ b := by simp [inB]
theorem inB_not {v a b : Int} : inB v a b = false ↔ v < a ∨ b < v := by
  rw [Bool.eq_false_iff, Ne, inB_iff]; omega
theorem any_not_all (l : List Int) (a b : Int) : l.any (fun c => !inB c a b) = !(l.all (inB · a b)) := by
  induction l with
  | nil => rfl
  | cons x t ih => simp only [List.any_cons, List.all_cons, ih, Bool.not_and]
end Go.Proofs.YtmbhafgnmdfjhaaV
