/- A lemma file: bits packed in bytes, the highest first. No condition. -/
import Derived.Test.YtlhdfdedhdcmiaaVPlain
import Derived.Laws.BitsLemmas
namespace Go.Proofs.YtlhdfdedhdcmiaaV
open Go.RowKit Go.Proofs.YtlhdfdedhdcmiaaW.PrintWords
def bw (b : Bool) (n : Nat) : Nat := if b then n else 0
def bsum (f : Nat → Bool) : Nat := bw (f 0) 128 + bw (f 1) 64 + bw (f 2) 32 + bw (f 3) 16 + bw (f 4) 8 + bw (f 5) 4 + bw (f 6) 2 + bw (f 7) 1
def bitAt (B : List Bool) (i : Nat) : Bool := B.getD i false
def byteB (B : List Bool) (i : Nat) : Nat := bsum (fun j => bitAt B (8 * i + j))
def packB (B : List Bool) : List Int := (List.range ((B.length + 7) / 8)).map (fun i => (byteB B i : Int))
theorem bw_le (b : Bool) (n : Nat) : bw b n ≤ n := by unfold bw; split <;> omega
theorem bsum_lt (f : Nat → Bool) : bsum f < 256 := by
  unfold bsum
  have := bw_le (f 0) 128; have := bw_le (f 1) 64; have := bw_le (f 2) 32; have := bw_le (f 3) 16; have := bw_le (f 4) 8; have := bw_le (f 5) 4; have := bw_le (f 6) 2; have := bw_le (f 7) 1
  omega
theorem packB_length (B : List Bool) : (packB B).length = (B.length + 7) / 8 := by simp [packB]
theorem packB_range (B : List Bool) : ∀ y ∈ packB B, 0 ≤ y ∧ y ≤ 255 := by
  intro y hy
  obtain ⟨i, _, rfl⟩ := List.mem_map.mp hy
  have := bsum_lt (fun j => bitAt B (8 * i + j))
  unfold byteB
  omega
theorem bitAt_snoc_lt {B : List Bool} {b : Bool} {i : Nat} (h : i < B.length) : bitAt (B ++ [b]) i = bitAt B i := by
  unfold bitAt
  rw [List.getD_eq_getElem?_getD, List.getD_eq_getElem?_getD, List.getElem?_append_left h]
theorem bitAt_snoc_eq {B : List Bool} {b : Bool} : bitAt (B ++ [b]) B.length = b := by
  unfold bitAt
  simp [List.getD_eq_getElem?_getD]
theorem bitAt_ge {B : List Bool} {i : Nat} (h : B.length ≤ i) : bitAt B i = false := by
  unfold bitAt
  rw [List.getD_eq_getElem?_getD, List.getElem?_eq_none h]; rfl
theorem bitAt_snoc_gt {B : List Bool} {b : Bool} {i : Nat} (h : B.length < i) : bitAt (B ++ [b]) i = false := bitAt_ge (by simp; omega)
theorem byteB_snoc_lt {B : List Bool} {b : Bool} {i : Nat} (h : 8 * i + 8 ≤ B.length) : byteB (B ++ [b]) i = byteB B i := by
  unfold byteB bsum
  simp only [bitAt_snoc_lt (B := B) (b := b) (show 8 * i + 0 < B.length by omega), bitAt_snoc_lt (B := B) (b := b) (show 8 * i + 1 < B.length by omega), bitAt_snoc_lt (B := B) (b := b) (show 8 * i + 2 < B.length by omega), bitAt_snoc_lt (B := B) (b := b) (show 8 * i + 3 < B.length by omega), bitAt_snoc_lt (B := B) (b := b) (show 8 * i + 4 < B.length by omega), bitAt_snoc_lt (B := B) (b := b) (show 8 * i + 5 < B.length by omega), bitAt_snoc_lt (B := B) (b := b) (show 8 * i + 6 < B.length by omega), bitAt_snoc_lt (B := B) (b := b) (show 8 * i + 7 < B.length by omega)]
/-- The last byte: what is there is a multiple of the next bit's double weight, and the new bit is added. -/
theorem last_byte (B : List Bool) (b : Bool) : byteB (B ++ [b]) (B.length / 8) = byteB B (B.length / 8) + bw b (2 ^ (7 - B.length % 8)) ∧ ∃ q, byteB B (B.length / 8) = q * 2 ^ (8 - B.length % 8) := by
  have hd := Nat.div_add_mod B.length 8
  have hr := Nat.mod_lt B.length (show 0 < 8 by omega)
  generalize hi : B.length / 8 = i at hd ⊢
  generalize hj : B.length % 8 = r at hd hr ⊢
  have f1 : ∀ j, j < r → bitAt (B ++ [b]) (8 * i + j) = bitAt B (8 * i + j) := fun j h => bitAt_snoc_lt (by omega)
  have f2 : bitAt (B ++ [b]) (8 * i + r) = b := by rw [hd]; exact bitAt_snoc_eq
  have f3 : ∀ j, r < j → bitAt (B ++ [b]) (8 * i + j) = false := fun j h => bitAt_snoc_gt (by omega)
  have f4 : ∀ j, r ≤ j → bitAt B (8 * i + j) = false := fun j h => bitAt_ge (by omega)
  unfold byteB bsum
  clear hd hi hj
  dsimp only
  have hz : bw false = fun _ => 0 := rfl
  have c : r = 0 ∨ r = 1 ∨ r = 2 ∨ r = 3 ∨ r = 4 ∨ r = 5 ∨ r = 6 ∨ r = 7 := by omega
  rcases c with rfl | rfl | rfl | rfl | rfl | rfl | rfl | rfl
  · rw [f2, f3 1 (by omega), f3 2 (by omega), f3 3 (by omega), f3 4 (by omega), f3 5 (by omega), f3 6 (by omega), f3 7 (by omega), f4 0 (by omega), f4 1 (by omega), f4 2 (by omega), f4 3 (by omega), f4 4 (by omega), f4 5 (by omega), f4 6 (by omega), f4 7 (by omega)]
    simp only [hz]
    exact ⟨by simp, 0, by simp⟩
  · rw [f1 0 (by omega), f2, f3 2 (by omega), f3 3 (by omega), f3 4 (by omega), f3 5 (by omega), f3 6 (by omega), f3 7 (by omega), f4 1 (by omega), f4 2 (by omega), f4 3 (by omega), f4 4 (by omega), f4 5 (by omega), f4 6 (by omega), f4 7 (by omega)]
    simp only [hz]
    generalize bitAt B (8 * i + 0) = x0
    exact ⟨by simp, bw x0 1, by cases x0 <;> simp [bw]⟩
  · rw [f1 0 (by omega), f1 1 (by omega), f2, f3 3 (by omega), f3 4 (by omega), f3 5 (by omega), f3 6 (by omega), f3 7 (by omega), f4 2 (by omega), f4 3 (by omega), f4 4 (by omega), f4 5 (by omega), f4 6 (by omega), f4 7 (by omega)]
    simp only [hz]
    generalize bitAt B (8 * i + 0) = x0
    generalize bitAt B (8 * i + 1) = x1
    exact ⟨by simp, bw x0 2 + bw x1 1, by cases x0 <;> cases x1 <;> simp [bw]⟩
  · rw [f1 0 (by omega), f1 1 (by omega), f1 2 (by omega), f2, f3 4 (by omega), f3 5 (by omega), f3 6 (by omega), f3 7 (by omega), f4 3 (by omega), f4 4 (by omega), f4 5 (by omega), f4 6 (by omega), f4 7 (by omega)]
    simp only [hz]
    generalize bitAt B (8 * i + 0) = x0
    generalize bitAt B (8 * i + 1) = x1
    generalize bitAt B (8 * i + 2) = x2
    exact ⟨by simp, bw x0 4 + bw x1 2 + bw x2 1, by cases x0 <;> cases x1 <;> cases x2 <;> simp [bw]⟩
  · rw [f1 0 (by omega), f1 1 (by omega), f1 2 (by omega), f1 3 (by omega), f2, f3 5 (by omega), f3 6 (by omega), f3 7 (by omega), f4 4 (by omega), f4 5 (by omega), f4 6 (by omega), f4 7 (by omega)]
    simp only [hz]
    generalize bitAt B (8 * i + 0) = x0
    generalize bitAt B (8 * i + 1) = x1
    generalize bitAt B (8 * i + 2) = x2
    generalize bitAt B (8 * i + 3) = x3
    exact ⟨by simp, bw x0 8 + bw x1 4 + bw x2 2 + bw x3 1, by cases x0 <;> cases x1 <;> cases x2 <;> cases x3 <;> simp [bw]⟩
  · rw [f1 0 (by omega), f1 1 (by omega), f1 2 (by omega), f1 3 (by omega), f1 4 (by omega), f2, f3 6 (by omega), f3 7 (by omega), f4 5 (by omega), f4 6 (by omega), f4 7 (by omega)]
    simp only [hz]
    generalize bitAt B (8 * i + 0) = x0
    generalize bitAt B (8 * i + 1) = x1
    generalize bitAt B (8 * i + 2) = x2
    generalize bitAt B (8 * i + 3) = x3
    generalize bitAt B (8 * i + 4) = x4
    exact ⟨by simp, bw x0 16 + bw x1 8 + bw x2 4 + bw x3 2 + bw x4 1, by cases x0 <;> cases x1 <;> cases x2 <;> cases x3 <;> cases x4 <;> simp [bw]⟩
  · rw [f1 0 (by omega), f1 1 (by omega), f1 2 (by omega), f1 3 (by omega), f1 4 (by omega), f1 5 (by omega), f2, f3 7 (by omega), f4 6 (by omega), f4 7 (by omega)]
    simp only [hz]
    generalize bitAt B (8 * i + 0) = x0
    generalize bitAt B (8 * i + 1) = x1
    generalize bitAt B (8 * i + 2) = x2
    generalize bitAt B (8 * i + 3) = x3
    generalize bitAt B (8 * i + 4) = x4
    generalize bitAt B (8 * i + 5) = x5
    exact ⟨by simp, bw x0 32 + bw x1 16 + bw x2 8 + bw x3 4 + bw x4 2 + bw x5 1, by cases x0 <;> cases x1 <;> cases x2 <;> cases x3 <;> cases x4 <;> cases x5 <;> simp [bw]⟩
  · rw [f1 0 (by omega), f1 1 (by omega), f1 2 (by omega), f1 3 (by omega), f1 4 (by omega), f1 5 (by omega), f1 6 (by omega), f2, f4 7 (by omega)]
    simp only [hz]
    generalize bitAt B (8 * i + 0) = x0
    generalize bitAt B (8 * i + 1) = x1
    generalize bitAt B (8 * i + 2) = x2
    generalize bitAt B (8 * i + 3) = x3
    generalize bitAt B (8 * i + 4) = x4
    generalize bitAt B (8 * i + 5) = x5
    generalize bitAt B (8 * i + 6) = x6
    exact ⟨by simp, bw x0 64 + bw x1 32 + bw x2 16 + bw x3 8 + bw x4 4 + bw x5 2 + bw x6 1, by cases x0 <;> cases x1 <;> cases x2 <;> cases x3 <;> cases x4 <;> cases x5 <;> cases x6 <;> simp [bw]⟩
theorem packB_get {B : List Bool} {i : Nat} (h : i < (packB B).length) : (packB B)[i] = (byteB B i : Int) := by simp [packB]
theorem packB_rd {B : List Bool} {i : Nat} (h : 8 * i < B.length) : rd (packB B) (i : Int) = (byteB B i : Int) := by
  unfold rd
  rw [Int.toNat_natCast, List.getD_eq_getElem?_getD, List.getElem?_eq_getElem (by rw [packB_length]; omega), packB_get]
  rfl
theorem packB_snoc (B : List Bool) (b : Bool) : packB (B ++ [b]) = ((if B.length % 8 = 0 then packB B ++ [0] else packB B)).set (B.length / 8) ((byteB B (B.length / 8) + bw b (2 ^ (7 - B.length % 8)) : Nat) : Int) := by
  have hl : (packB (B ++ [b])).length = B.length / 8 + 1 := by rw [packB_length]; simp; omega
  have hl2 : (if B.length % 8 = 0 then packB B ++ [0] else packB B).length = B.length / 8 + 1 := by
    split
    · rw [List.length_append, packB_length]; simp; omega
    · rw [packB_length]; omega
  apply List.ext_getElem
  · rw [List.length_set, hl, hl2]
  · intro i h1 h2
    rw [packB_get h1, List.getElem_set]
    by_cases e : B.length / 8 = i
    · subst e
      rw [if_pos rfl, (last_byte B b).1]
    · rw [if_neg e]
      rw [byteB_snoc_lt (by omega)]
      have h3 : i < (packB B).length := by rw [packB_length]; omega
      rw [← packB_get h3]
      by_cases hm : B.length % 8 = 0
      · simp only [if_pos hm]; rw [List.getElem_append_left h3]
      · simp only [if_neg hm]
end Go.Proofs.YtlhdfdedhdcmiaaV
