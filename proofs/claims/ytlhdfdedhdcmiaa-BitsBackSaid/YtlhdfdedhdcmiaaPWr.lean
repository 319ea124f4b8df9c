/- A lemma file: a writer of bits, as a list of bits: its methods. No condition. -/
import Derived.Test.YtlhdfdedhdcmiaaVPlain
import Derived.Laws.BitsLemmas
import Derived.Test.YtlhdfdedhdcmiaaVMake
import Derived.Deep.QuietTactic
import Derived.BigQuiet
import Derived.StillTailTactics
import Derived.Test.YtlhdfdedhdcmiaaQBitsx0
import Derived.Test.YtlhdfdedhdcmiaaQBitsx48
namespace Go.Proofs.YtlhdfdedhdcmiaaV
open Go.RowKit Go.Proofs.YtlhdfdedhdcmiaaW.PrintWords
def bw (b : Bool) (n : Nat) : Nat := if b then n else 0
def bsum (f : Nat → Bool) : Nat := bw (f 0) 128 + bw (f 1) 64 + bw (f 2) 32 + bw (f 3) 16 + bw (f 4) 8 + bw (f 5) 4 + bw (f 6) 2 + bw (f 7) 1
def bitAt (B : List Bool) (i : Nat) : Bool := B.getD i false
def byteB (B : List Bool) (i : Nat) : Nat := bsum (fun j => bitAt B (8 * i + j))
def packB (B : List Bool) : List Int := (List.range ((B.length + 7) / 8)).map (fun i => (byteB B i : Int))
theorem bw_le (b : Bool) (n : Nat) : bw b n ≤ n := by unfold bw; split <;> omega
theorem bsum_lt (f : Nat → Bool) : bsum f < 256 := by
  unfold bsum
  have := bw_le (f 0) 128; have := bw_le (f 1) 64; have := bw_le (f 2) 32; have := bw_le (f 3) 16; have := bw_le (f 4) 8; have := bw_le (f 5) 4; have := bw_le (f 6) 2; have := bw_le (f 7) 1
  omega
theorem packB_length (B : List Bool) : (packB B).length = (B.length + 7) / 8 := by simp [packB]
theorem packB_range (B : List Bool) : ∀ y ∈ packB B, 0 ≤ y ∧ y ≤ 255 := by
  intro y hy
  obtain ⟨i, _, rfl⟩ := List.mem_map.mp hy
  have := bsum_lt (fun j => bitAt B (8 * i + j))
  unfold byteB
  omega
theorem bitAt_snoc_lt {B : List Bool} {b : Bool} {i : Nat} (h : i < B.length) : bitAt (B ++ [b]) i = bitAt B i := by
  unfold bitAt
  rw [List.getD_eq_getElem?_getD, List.getD_eq_getElem?_getD, List.getElem?_append_left h]
theorem bitAt_snoc_eq {B : List Bool} {b : Bool} : bitAt (B ++ [b]) B.length = b := by
  unfold bitAt
  simp [List.getD_eq_getElem?_getD]
theorem bitAt_ge {B : List Bool} {i : Nat} (h : B.length ≤ i) : bitAt B i = false := by
  unfold bitAt
  rw [List.getD_eq_getElem?_getD, List.getElem?_eq_none h]; rfl
theorem bitAt_snoc_gt {B : List Bool} {b : Bool} {i : Nat} (h : B.length < i) : bitAt (B ++ [b]) i = false := bitAt_ge (by simp; omega)
theorem byteB_snoc_lt {B : List Bool} {b : Bool} {i : Nat} (h : 8 * i + 8 ≤ B.length) : byteB (B ++ [b]) i = byteB B i := by
  unfold byteB bsum
  simp only [bitAt_snoc_lt (B := B) (b := b) (show 8 * i + 0 < B.length by omega), bitAt_snoc_lt (B := B) (b := b) (show 8 * i + 1 < B.length by omega), bitAt_snoc_lt (B := B) (b := b) (show 8 * i + 2 < B.length by omega), bitAt_snoc_lt (B := B) (b := b) (show 8 * i + 3 < B.length by omega), bitAt_snoc_lt (B := B) (b := b) (show 8 * i + 4 < B.length by omega), bitAt_snoc_lt (B := B) (b := b) (show 8 * i + 5 < B.length by omega), bitAt_snoc_lt (B := B) (b := b) (show 8 * i + 6 < B.length by omega), bitAt_snoc_lt (B := B) (b := b) (show 8 * i + 7 < B.length by omega)]
/-- The last byte: what is there is a multiple of the next bit's double weight, and the new bit is added. -/
theorem last_byte (B : List Bool) (b : Bool) : byteB (B ++ [b]) (B.length / 8) = byteB B (B.length / 8) + bw b (2 ^ (7 - B.length % 8)) ∧ ∃ q, byteB B (B.length / 8) = q * 2 ^ (8 - B.length % 8) := by
  have hd := Nat.div_add_mod B.length 8
  have hr := Nat.mod_lt B.length (show 0 < 8 by omega)
  generalize hi : B.length / 8 = i at hd ⊢
  generalize hj : B.length % 8 = r at hd hr ⊢
  have f1 : ∀ j, j < r → bitAt (B ++ [b]) (8 * i + j) = bitAt B (8 * i + j) := fun j h => bitAt_snoc_lt (by omega)
  have f2 : bitAt (B ++ [b]) (8 * i + r) = b := by rw [hd]; exact bitAt_snoc_eq
  have f3 : ∀ j, r < j → bitAt (B ++ [b]) (8 * i + j) = false := fun j h => bitAt_snoc_gt (by omega)
  have f4 : ∀ j, r ≤ j → bitAt B (8 * i + j) = false := fun j h => bitAt_ge (by omega)
  unfold byteB bsum
  clear hd hi hj
  dsimp only
  have hz : bw false = fun _ => 0 := rfl
  have c : r = 0 ∨ r = 1 ∨ r = 2 ∨ r = 3 ∨ r = 4 ∨ r = 5 ∨ r = 6 ∨ r = 7 := by omega
  rcases c with rfl | rfl | rfl | rfl | rfl | rfl | rfl | rfl
  · rw [f2, f3 1 (by omega), f3 2 (by omega), f3 3 (by omega), f3 4 (by omega), f3 5 (by omega), f3 6 (by omega), f3 7 (by omega), f4 0 (by omega), f4 1 (by omega), f4 2 (by omega), f4 3 (by omega), f4 4 (by omega), f4 5 (by omega), f4 6 (by omega), f4 7 (by omega)]
    simp only [hz]
    exact ⟨by simp, 0, by simp⟩
  · rw [f1 0 (by omega), f2, f3 2 (by omega), f3 3 (by omega), f3 4 (by omega), f3 5 (by omega), f3 6 (by omega), f3 7 (by omega), f4 1 (by omega), f4 2 (by omega), f4 3 (by omega), f4 4 (by omega), f4 5 (by omega), f4 6 (by omega), f4 7 (by omega)]
    simp only [hz]
    generalize bitAt B (8 * i + 0) = x0
    exact ⟨by simp, bw x0 1, by cases x0 <;> simp [bw]⟩
  · rw [f1 0 (by omega), f1 1 (by omega), f2, f3 3 (by omega), f3 4 (by omega), f3 5 (by omega), f3 6 (by omega), f3 7 (by omega), f4 2 (by omega), f4 3 (by omega), f4 4 (by omega), f4 5 (by omega), f4 6 (by omega), f4 7 (by omega)]
    simp only [hz]
    generalize bitAt B (8 * i + 0) = x0
    generalize bitAt B (8 * i + 1) = x1
    exact ⟨by simp, bw x0 2 + bw x1 1, by cases x0 <;> cases x1 <;> simp [bw]⟩
  · rw [f1 0 (by omega), f1 1 (by omega), f1 2 (by omega), f2, f3 4 (by omega), f3 5 (by omega), f3 6 (by omega), f3 7 (by omega), f4 3 (by omega), f4 4 (by omega), f4 5 (by omega), f4 6 (by omega), f4 7 (by omega)]
    simp only [hz]
    generalize bitAt B (8 * i + 0) = x0
    generalize bitAt B (8 * i + 1) = x1
    generalize bitAt B (8 * i + 2) = x2
    exact ⟨by simp, bw x0 4 + bw x1 2 + bw x2 1, by cases x0 <;> cases x1 <;> cases x2 <;> simp [bw]⟩
  · rw [f1 0 (by omega), f1 1 (by omega), f1 2 (by omega), f1 3 (by omega), f2, f3 5 (by omega), f3 6 (by omega), f3 7 (by omega), f4 4 (by omega), f4 5 (by omega), f4 6 (by omega), f4 7 (by omega)]
    simp only [hz]
    generalize bitAt B (8 * i + 0) = x0
    generalize bitAt B (8 * i + 1) = x1
    generalize bitAt B (8 * i + 2) = x2
    generalize bitAt B (8 * i + 3) = x3
    exact ⟨by simp, bw x0 8 + bw x1 4 + bw x2 2 + bw x3 1, by cases x0 <;> cases x1 <;> cases x2 <;> cases x3 <;> simp [bw]⟩
  · rw [f1 0 (by omega), f1 1 (by omega), f1 2 (by omega), f1 3 (by omega), f1 4 (by omega), f2, f3 6 (by omega), f3 7 (by omega), f4 5 (by omega), f4 6 (by omega), f4 7 (by omega)]
    simp only [hz]
    generalize bitAt B (8 * i + 0) = x0
    generalize bitAt B (8 * i + 1) = x1
    generalize bitAt B (8 * i + 2) = x2
    generalize bitAt B (8 * i + 3) = x3
    generalize bitAt B (8 * i + 4) = x4
    exact ⟨by simp, bw x0 16 + bw x1 8 + bw x2 4 + bw x3 2 + bw x4 1, by cases x0 <;> cases x1 <;> cases x2 <;> cases x3 <;> cases x4 <;> simp [bw]⟩
  · rw [f1 0 (by omega), f1 1 (by omega), f1 2 (by omega), f1 3 (by omega), f1 4 (by omega), f1 5 (by omega), f2, f3 7 (by omega), f4 6 (by omega), f4 7 (by omega)]
    simp only [hz]
    generalize bitAt B (8 * i + 0) = x0
    generalize bitAt B (8 * i + 1) = x1
    generalize bitAt B (8 * i + 2) = x2
    generalize bitAt B (8 * i + 3) = x3
    generalize bitAt B (8 * i + 4) = x4
    generalize bitAt B (8 * i + 5) = x5
    exact ⟨by simp, bw x0 32 + bw x1 16 + bw x2 8 + bw x3 4 + bw x4 2 + bw x5 1, by cases x0 <;> cases x1 <;> cases x2 <;> cases x3 <;> cases x4 <;> cases x5 <;> simp [bw]⟩
  · rw [f1 0 (by omega), f1 1 (by omega), f1 2 (by omega), f1 3 (by omega), f1 4 (by omega), f1 5 (by omega), f1 6 (by omega), f2, f4 7 (by omega)]
    simp only [hz]
    generalize bitAt B (8 * i + 0) = x0
    generalize bitAt B (8 * i + 1) = x1
    generalize bitAt B (8 * i + 2) = x2
    generalize bitAt B (8 * i + 3) = x3
    generalize bitAt B (8 * i + 4) = x4
    generalize bitAt B (8 * i + 5) = x5
    generalize bitAt B (8 * i + 6) = x6
    exact ⟨by simp, bw x0 64 + bw x1 32 + bw x2 16 + bw x3 8 + bw x4 4 + bw x5 2 + bw x6 1, by cases x0 <;> cases x1 <;> cases x2 <;> cases x3 <;> cases x4 <;> cases x5 <;> cases x6 <;> simp [bw]⟩
theorem packB_get {B : List Bool} {i : Nat} (h : i < (packB B).length) : (packB B)[i] = (byteB B i : Int) := by simp [packB]
theorem packB_rd {B : List Bool} {i : Nat} (h : 8 * i < B.length) : rd (packB B) (i : Int) = (byteB B i : Int) := by
  unfold rd
  rw [Int.toNat_natCast, List.getD_eq_getElem?_getD, List.getElem?_eq_getElem (by rw [packB_length]; omega), packB_get]
  rfl
theorem packB_snoc (B : List Bool) (b : Bool) : packB (B ++ [b]) = ((if B.length % 8 = 0 then packB B ++ [0] else packB B)).set (B.length / 8) ((byteB B (B.length / 8) + bw b (2 ^ (7 - B.length % 8)) : Nat) : Int) := by
  have hl : (packB (B ++ [b])).length = B.length / 8 + 1 := by rw [packB_length]; simp; omega
  have hl2 : (if B.length % 8 = 0 then packB B ++ [0] else packB B).length = B.length / 8 + 1 := by
    split
    · rw [List.length_append, packB_length]; simp; omega
    · rw [packB_length]; omega
  apply List.ext_getElem
  · rw [List.length_set, hl, hl2]
  · intro i h1 h2
    rw [packB_get h1, List.getElem_set]
    by_cases e : B.length / 8 = i
    · subst e
      rw [if_pos rfl, (last_byte B b).1]
    · rw [if_neg e]
      rw [byteB_snoc_lt (by omega)]
      have h3 : i < (packB B).length := by rw [packB_length]; omega
      rw [← packB_get h3]
      by_cases hm : B.length % 8 = 0
      · simp only [if_pos hm]; rw [List.getElem_append_left h3]
      · simp only [if_neg hm]
end Go.Proofs.YtlhdfdedhdcmiaaV
namespace Go.Proofs.Ytlhdfdedhdcmiaa.QBits
open Go.RowKit Go.Proofs.YtlhdfdedhdcmiaaW.PrintWords Go.Proofs.YtlhdfdedhdcmiaaW.PrintLast Go.Proofs.YtlhdfdedhdcmiaaW.PrintMore Go.Proofs.YtlhdfdedhdcmiaaV
set_option linter.unusedVariables false
set_option linter.unusedSimpArgs false
/-- What a call on things with the blocks F has turned: nothing but these; F' are theirs behind it. -/
structure Moved (w w' : World) (F F' : Nat → Prop) : Prop where
  os : w'.os = w.os
  tape : w'.tape = w.tape
  output : w'.output = w.output
  size : w.heap.size ≤ w'.heap.size
  block : ∀ k, k < w.heap.size → ¬ F k → w'.heap[k]? = w.heap[k]?
  sub : ∀ k, F' k → F k ∨ w.heap.size ≤ k
theorem Moved.refl (w : World) (F : Nat → Prop) : Moved w w F F := ⟨rfl, rfl, rfl, Nat.le_refl _, fun _ _ _ => rfl, fun _ h => .inl h⟩
theorem Moved.trans {a b c : World} {F G H : Nat → Prop} (h : Moved a b F G) (k : Moved b c G H) : Moved a c F H :=
  ⟨k.os.trans h.os, k.tape.trans h.tape, k.output.trans h.output, Nat.le_trans h.size k.size,
   fun i hi hn => (k.block i (Nat.lt_of_lt_of_le hi h.size) (fun hg => (h.sub i hg).elim hn (fun hs => absurd hi (by omega)))).trans (h.block i hi hn),
   fun i hi => (k.sub i hi).elim (fun hg => h.sub i hg) (fun hs => .inr (Nat.le_trans h.size hs))⟩
theorem Moved.below {w w' : World} {F F' : Nat → Prop} {base : Nat} (h : Moved w w' F F') (hF : ∀ k, F k → base ≤ k) (hb : base ≤ w.heap.size) : Below base w w' :=
  ⟨h.os, h.tape, h.output, h.size, fun k hk => h.block k (by omega) (fun hf => absurd (hF k hf) (by omega))⟩
theorem Moved.of_below {w w' : World} {F : Nat → Prop} (h : Below w.heap.size w w') : Moved w w' F F := ⟨h.os, h.tape, h.output, h.size, fun k hk _ => h.block k hk, fun _ h => .inl h⟩
theorem Moved.drewN {a b : World} {F G : Nat → Prop} (h : Moved a b F G) (m : Nat) : Moved a (b.drewN m) F G := ⟨h.os, h.tape, h.output, h.size, h.block, h.sub⟩
/-- A writer's blocks: itself, its count, its bytes. -/
structure RawW (W : World) (base g gc : Nat) (v : Value) (bs : List Int) (n : Int) : Prop where
  hg : W.heap[g]? = some (.cells #[.pointer (some ⟨gc, 0, none⟩), v] 87 (0, 0))
  hc : W.heap[gc]? = some (.cells #[.int .i64 n] 85 (0, 0))
  row : W.ownsRow base 5 1 v bs.length (nums .u8 bs)
  bg : base ≤ g
  bc : base ≤ gc
def footW (g gc : Nat) (v : Value) : Nat → Prop := fun k => k = g ∨ k = gc ∨ v.ownBlock = some k
def IsW (W : World) (base : Nat) (F : Nat → Prop) (g : Nat) (B : List Bool) : Prop := ∃ gc v, RawW W base g gc v (packB B) (B.length : Int) ∧ F = footW g gc v
theorem RawW.ge {W : World} {base g gc : Nat} {v : Value} {bs : List Int} {n : Int} (h : RawW W base g gc v bs n) : ∀ k, footW g gc v k → base ≤ k ∧ k < W.heap.size := by
  rintro k (rfl | rfl | hk)
  · exact ⟨h.bg, blk_lt h.hg⟩
  · exact ⟨h.bc, blk_lt h.hc⟩
  · exact ⟨own_base h.row k hk, own_lt h.row k hk⟩
theorem IsW.ge {W : World} {base g : Nat} {F : Nat → Prop} {B : List Bool} (h : IsW W base F g B) : ∀ k, F k → base ≤ k ∧ k < W.heap.size := by
  obtain ⟨gc, v, h, rfl⟩ := h
  exact h.ge
theorem RawW.same {W W' : World} {base g gc : Nat} {v : Value} {bs : List Int} {n : Int} (h : RawW W base g gc v bs n) (hs : W.heap.size ≤ W'.heap.size) (hb : ∀ k, k < W.heap.size → footW g gc v k → W'.heap[k]? = W.heap[k]?) : RawW W' base g gc v bs n := by
  refine ⟨(hb g (blk_lt h.hg) (.inl rfl)).trans h.hg, (hb gc (blk_lt h.hc) (.inr (.inl rfl))).trans h.hc, ?_, h.bg, h.bc⟩
  obtain ⟨h1, h2⟩ := h.row
  refine ⟨h1, ?_⟩
  rcases h2 with h2 | ⟨r, cap, cur, rfl, hr, hh, rest⟩
  · exact .inl h2
  · exact .inr ⟨r, cap, cur, rfl, hr, (hb r (blk_lt hh) (.inr (.inr rfl))).trans hh, rest⟩
theorem IsW.same {W W' : World} {base g : Nat} {F : Nat → Prop} {B : List Bool} (h : IsW W base F g B) (hs : W.heap.size ≤ W'.heap.size) (hb : ∀ k, k < W.heap.size → F k → W'.heap[k]? = W.heap[k]?) : IsW W' base F g B := by
  obtain ⟨gc, v, h, rfl⟩ := h
  exact ⟨gc, v, h.same hs hb, rfl⟩
theorem IsW.below {W W' : World} {base g : Nat} {F : Nat → Prop} {B : List Bool} (h : IsW W base F g B) (hb : Below W.heap.size W W') : IsW W' base F g B := h.same hb.size (fun k hk _ => hb.block k hk)
theorem IsW.drewN {W : World} {base g : Nat} {F : Nat → Prop} {B : List Bool} (h : IsW W base F g B) (m : Nat) : IsW (W.drewN m) base F g B := h.same (Nat.le_refl _) (fun _ _ _ => rfl)
theorem RawW.ne {W : World} {base g gc : Nat} {v : Value} {bs : List Int} {n : Int} (h : RawW W base g gc v bs n) : g ≠ gc ∧ some g ≠ v.ownBlock ∧ some gc ≠ v.ownBlock :=
  ⟨blk_ne h.hg h.hc (by decide), own_ne h.row h.hg (by decide), own_ne h.row h.hc (by decide)⟩
theorem RawW.put {W : World} {base g gc gr q c : Nat} {bs : List Int} {n : Int} (h : RawW W base g gc (.slice (some ⟨gr, 0, none⟩) (q + 1) c) bs n) (hl : bs.length = q + 1) (y m : Int) :
    RawW (((W.setCell ⟨gr, q, none⟩ (.int .u8 y)).setCell ⟨gc, 0, none⟩ (.int .i64 m)).drew) base g gc (.slice (some ⟨gr, 0, none⟩) (q + 1) c) (bs.set q y) m ∧
    Moved W (((W.setCell ⟨gr, q, none⟩ (.int .u8 y)).setCell ⟨gc, 0, none⟩ (.int .i64 m)).drew) (footW g gc (.slice (some ⟨gr, 0, none⟩) (q + 1) c)) (footW g gc (.slice (some ⟨gr, 0, none⟩) (q + 1) c)) := by
  obtain ⟨n1, n2, n3⟩ := h.ne
  have e1 : g ≠ gr := fun e => n2 (by rw [e]; rfl)
  have e2 : gc ≠ gr := fun e => n3 (by rw [e]; rfl)
  have hrow := h.row
  rw [hl] at hrow
  obtain ⟨r1, r2⟩ := own_store hrow (q : Int) y
  rw [Int.toNat_natCast] at r1 r2
  have hg2 := blk_far h.hg (p := ⟨gr, q, none⟩) e1 (.int .u8 y)
  have hc2 := blk_far h.hc (p := ⟨gr, q, none⟩) e2 (.int .u8 y)
  refine ⟨⟨?_, ?_, ?_, h.bg, h.bc⟩, ⟨rfl, rfl, rfl, by simp [World.setCell, World.drew], fun k hk hn => ?_, fun k hk => .inl hk⟩⟩
  · exact blk_far hg2 (p := ⟨gc, 0, none⟩) n1 _
  · have h9 := blk_set hc2 0 (.int .i64 m)
    simp at h9
    exact h9
  · rw [List.length_set, hl]
    exact own_setCell r1 (p := ⟨gc, 0, none⟩) (own_ne r1 hc2 (by decide)) _
  · have k1 : k ≠ gc := fun e => hn (.inr (.inl e))
    have k2 : k ≠ gr := fun e => hn (.inr (.inr (by rw [e]; rfl)))
    exact (Below.heap_setCell _ ⟨gc, 0, none⟩ _ k k1).trans (Below.heap_setCell _ ⟨gr, q, none⟩ _ k k2)
theorem bit_raw (g gc : Nat) (v : Value) (bs : List Int) (n q r s : Nat) (x : Int) (base : Nat) (w : World) (h : RawW w base g gc v bs (n : Int)) (hb : base ≤ w.heap.size) (hq : n = 8 * q + r) (hs : r + s = 7) (hn : n < 67108864) (hl : bs.length = if r = 0 then q else q + 1) (y : Int)
    (hy : Go.bits .or .u8 (rd (if r = 0 then bs ++ [0] else bs) (q : Int)) (IntKind.u8.wrap (IntKind.i64.wrap (x * 2 ^ min s 64))) = y) :
    Calls Try.prog 92 #[.pointer (some ⟨g, 0, none⟩), .int .i64 x] w fun e w' => e = .returned (.tuple #[]) ∧ ∃ v', RawW w' base g gc v' ((if r = 0 then bs ++ [0] else bs).set q y) ((n + 1 : Nat) : Int) ∧ Moved w w' (footW g gc v) (footW g gc v') := by
  obtain ⟨A, c, rfl⟩ := own_slice h.row
  have info5 : (Try.prog.info? 5).map (fun i => (i.zero, i.size, i.bytes)) = some (some (.int .u8 0), 1, 1) := by kernel_rfl
  have HR := Aside0.mk h
  have HN := Aside0.mk h.ne
  have cg0 : w.cell? ⟨g, 0, none⟩ = some (.pointer (some ⟨gc, 0, none⟩)) := (blk_cell h.hg 0).trans rfl
  have cg1 : w.cell? ⟨g, 1, none⟩ = some (.slice A bs.length c) := (blk_cell h.hg 1).trans rfl
  have fg1 := blk_frozen h.hg 1
  have cc0 : w.cell? ⟨gc, 0, none⟩ = some (.int .i64 n) := (blk_cell h.hc 0).trans rfl
  have fc0 := blk_frozen h.hc 0
  have HL := Aside0.mk hl
  have HQ := Aside0.mk hq
  have HS := Aside0.mk hs
  have HX := Aside0.mk hn
  have rm : (n : Int) % 8 = (r : Int) := by omega
  have rt : (n : Int).tmod 8 = (r : Int) := by rw [Int.tmod_eq_emod_of_nonneg (by omega)]; exact rm
  have rs : IntKind.i64.wrap (7 - (r : Int)) = (s : Int) := by rw [IntKind.wrap_i64]; omega
  have rn : IntKind.i64.wrap ((n : Int) + 1) = ((n + 1 : Nat) : Int) := by rw [IntKind.wrap_i64]; omega
  have rq : IntKind.i64.wrap (q : Int) = (q : Int) := by rw [IntKind.wrap_i64]; omega
  have rs0 : decide (0 ≤ (s : Int)) = true := by simp
  have lt1 : ((q : Int) < (q : Int) + 1) = True := eq_true (by omega)
  clear h hl hq hs hn
  by_cases hm : r = 0
  · simp only [if_pos hm] at hy ⊢
    have hm1 : ((r : Int) == 0) = true := beq_iff_eq.mpr (by omega)
    have hm2 := Aside0.mk hm
    have hy2 := Aside0.mk hy
    clear hm hy
    go_enter Try.func92, Try.ntmps92
    go_wp2_with (at_builtin; refine print_append_num (w0 := w) base rfl (.tmp 17) (.tmp 18) 22 5 .u8 1 rfl Try.underlying22 info5 (by decide) _ bs 0 rfl rfl HR.out.row (Below.refl _ _) hb (by have h1 := HL.out; have h2 := HQ.out; have h3 := HX.out; rw [if_pos hm2.out] at h1; omega) ?_; intro v1 w1 hown hB hG hat; obtain ⟨A1, c1, rfl⟩ := own_slice hown; have G1 := blk_grown HR.out.hg hG HN.out.2.1; have C1 := blk_grown HR.out.hc hG HN.out.2.2; have cg0' : w1.cell? ⟨g, 0, none⟩ = some (.pointer (some ⟨gc, 0, none⟩)) := (blk_cell G1 0).trans rfl; have cg1' : w1.cell? ⟨g, 1, none⟩ = some (.slice A bs.length c) := (blk_cell G1 1).trans rfl; have fg1' := blk_frozen G1 1; have cc0' : w1.cell? ⟨gc, 0, none⟩ = some (.int .i64 n) := (blk_cell C1 0).trans rfl; have S1 := Aside0.mk hown; have S2 := Aside0.mk hG; have S3 := Aside0.mk hat; have S4 := Aside0.mk G1; have S5 := Aside0.mk C1; clear hown hB hG hat G1 C1)
    have e1 : (bs ++ [0]).length = bs.length + 1 := by simp
    rw [e1] at S1 S3
    have R2 : RawW (w1.setCell ⟨g, 1, none⟩ (.slice A1 (bs.length + 1) c1)) base g gc (.slice A1 (bs.length + 1) c1) (bs ++ [0]) n := by
      have hne : some g ≠ (Value.slice A1 (bs.length + 1) c1).ownBlock := own_ne S1.out S4.out (by decide)
      exact ⟨by simpa using blk_set S4.out 1 (.slice A1 (bs.length + 1) c1), blk_far S5.out (fun e => HN.out.1 e.symm) _, by rw [e1]; exact own_setCell S1.out hne _, HR.out.bg, HR.out.bc⟩
    have M2 : Moved w (w1.setCell ⟨g, 1, none⟩ (.slice A1 (bs.length + 1) c1)) (footW g gc (.slice A bs.length c)) (footW g gc (.slice A1 (bs.length + 1) c1)) := by
      have hG := S2.out
      refine ⟨hG.os, hG.tape, hG.output, by simpa [World.setCell] using hG.size, fun k hk hn => ?_, ?_⟩
      · have h1 : k ≠ g := fun e => hn (.inl e)
        have h2 : some k ≠ (Value.slice A bs.length c).ownBlock := fun e => hn (.inr (.inr e.symm))
        exact (Below.heap_setCell w1 _ _ k h1).trans (hG.block k hk h2)
      · rintro k (rfl | rfl | hk)
        · exact .inl (.inl rfl)
        · exact .inl (.inr (.inl rfl))
        · rcases S3.out with h3 | ⟨b, h3, h4⟩
          · exact .inl (.inr (.inr (h3.symm.trans hk)))
          · exact .inr (by rw [show k = b from Option.some.inj (hk.symm.trans h3)]; exact h4)
    have HM := Aside0.mk M2
    have HR2 := Aside0.mk R2
    clear M2 R2 S1 S2 S3 S4 S5 cg0 cg1 fg1 cc0 fc0 cg0' cg1' fg1' cc0'
    generalize w1.setCell ⟨g, 1, none⟩ (.slice A1 (bs.length + 1) c1) = w2 at HM HR2 ⊢
    have e2 : bs.length + 1 = q + 1 := by have h1 := HL.out; rw [if_pos hm2.out] at h1; omega
    have HR3 : RawW w2 base g gc (.slice A1 (q + 1) c1) (bs ++ [0]) n := by rw [← e2]; exact HR2.out
    have HM3 : Moved w w2 (footW g gc (.slice A bs.length c)) (footW g gc (.slice A1 (q + 1) c1)) := by rw [← e2]; exact HM.out
    have HB2 : (bs ++ [0]).length = q + 1 := by rw [e1, e2]
    rw [e2]
    clear e1 e2 HR2 HM
    have HR2 := Aside0.mk HR3
    have HM := Aside0.mk HM3
    have HB := Aside0.mk HB2
    clear HR3 HM3 HB2
    generalize hb2 : bs ++ [0] = b2 at HR2 HB hy2
    have HBB := Aside0.mk hb2
    clear hb2
    have row2 := HR2.out.row
    rw [HB.out] at row2
    obtain ⟨gr, cap, ev, hgb, hgl⟩ := row2.form (by omega)
    simp only [Value.slice.injEq] at ev
    obtain ⟨rfl, -, rfl⟩ := ev
    have cg0 : w2.cell? ⟨g, 0, none⟩ = some (.pointer (some ⟨gc, 0, none⟩)) := (blk_cell HR2.out.hg 0).trans rfl
    have cg1 : w2.cell? ⟨g, 1, none⟩ = some (.slice (some ⟨gr, 0, none⟩) (q + 1) c1) := (blk_cell HR2.out.hg 1).trans rfl
    have cc0 : w2.cell? ⟨gc, 0, none⟩ = some (.int .i64 n) := (blk_cell HR2.out.hc 0).trans rfl
    have fc0 := blk_frozen HR2.out.hc 0
    obtain ⟨cr, fr⟩ := own_at row2 (q : Int) (by omega) (by omega)
    rw [Int.toNat_natCast] at cr fr
    clear hgb hgl row2
    go_still_tail 26, (by kernel_rfl)
    change wpList _ _ _ _ _ w2.drew
    simp only [hy2.out]
    have G2 : (w2.setCell ⟨gr, q, none⟩ (.int .u8 y)).heap[g]? = some (.cells #[.pointer (some ⟨gc, 0, none⟩), .slice (some ⟨gr, 0, none⟩) (q + 1) c1] 87 (0, 0)) := blk_far HR2.out.hg (fun e => HR2.out.ne.2.1 (by rw [e]; rfl)) _
    have C2 : (w2.setCell ⟨gr, q, none⟩ (.int .u8 y)).heap[gc]? = some (.cells #[.int .i64 n] 85 (0, 0)) := blk_far HR2.out.hc (fun e => HR2.out.ne.2.2 (by rw [e]; rfl)) _
    have d0 : (w2.setCell ⟨gr, q, none⟩ (.int .u8 y)).cell? ⟨g, 0, none⟩ = some (.pointer (some ⟨gc, 0, none⟩)) := (blk_cell G2 0).trans rfl
    have d1 : (w2.setCell ⟨gr, q, none⟩ (.int .u8 y)).cell? ⟨gc, 0, none⟩ = some (.int .i64 n) := (blk_cell C2 0).trans rfl
    have d2 := blk_frozen C2 0
    have HG2 := Aside0.mk G2
    have HC2 := Aside0.mk C2
    clear G2 C2
    go_wp2_with fail
    go_end0
    obtain ⟨P1, P2⟩ := HR2.out.put HB.out y ((n : Int) + 1)
    exact ⟨rfl, _, by rw [HBB.out]; exact P1, HM.out.trans P2⟩
  · simp only [if_neg hm] at hy ⊢
    have hm1 : ((r : Int) == 0) = false := beq_eq_false_iff_ne.mpr (by omega)
    have hy2 := Aside0.mk hy
    have e2 : bs.length = q + 1 := by have h1 := HL.out; rw [if_neg hm] at h1; omega
    have HR2 : Aside0 (RawW w base g gc (.slice A (q + 1) c) bs n) := ⟨by rw [← e2]; exact HR.out⟩
    have HB := Aside0.mk e2
    rw [e2]
    clear hm hy HR HN HL e2 cg0 cg1 fg1 cc0 fc0
    have row2 := HR2.out.row
    rw [HB.out] at row2
    obtain ⟨gr, cap, ev, hgb, hgl⟩ := row2.form (by omega)
    simp only [Value.slice.injEq] at ev
    obtain ⟨rfl, -, rfl⟩ := ev
    have cg0 : w.cell? ⟨g, 0, none⟩ = some (.pointer (some ⟨gc, 0, none⟩)) := (blk_cell HR2.out.hg 0).trans rfl
    have cg1 : w.cell? ⟨g, 1, none⟩ = some (.slice (some ⟨gr, 0, none⟩) (q + 1) c) := (blk_cell HR2.out.hg 1).trans rfl
    have cc0 : w.cell? ⟨gc, 0, none⟩ = some (.int .i64 n) := (blk_cell HR2.out.hc 0).trans rfl
    have fc0 := blk_frozen HR2.out.hc 0
    obtain ⟨cr, fr⟩ := own_at row2 (q : Int) (by omega) (by omega)
    rw [Int.toNat_natCast] at cr fr
    clear hgb hgl row2
    go_enter Try.func92, Try.ntmps92
    go_wp2_with fail
    go_still_tail 26, (by kernel_rfl)
    change wpList _ _ _ _ _ w.drew
    simp only [hy2.out]
    have G2 : (w.setCell ⟨gr, q, none⟩ (.int .u8 y)).heap[g]? = some (.cells #[.pointer (some ⟨gc, 0, none⟩), .slice (some ⟨gr, 0, none⟩) (q + 1) c] 87 (0, 0)) := blk_far HR2.out.hg (fun e => HR2.out.ne.2.1 (by rw [e]; rfl)) _
    have C2 : (w.setCell ⟨gr, q, none⟩ (.int .u8 y)).heap[gc]? = some (.cells #[.int .i64 n] 85 (0, 0)) := blk_far HR2.out.hc (fun e => HR2.out.ne.2.2 (by rw [e]; rfl)) _
    have d0 : (w.setCell ⟨gr, q, none⟩ (.int .u8 y)).cell? ⟨g, 0, none⟩ = some (.pointer (some ⟨gc, 0, none⟩)) := (blk_cell G2 0).trans rfl
    have d1 : (w.setCell ⟨gr, q, none⟩ (.int .u8 y)).cell? ⟨gc, 0, none⟩ = some (.int .i64 n) := (blk_cell C2 0).trans rfl
    have d2 := blk_frozen C2 0
    have HG2 := Aside0.mk G2
    have HC2 := Aside0.mk C2
    clear G2 C2
    go_wp2_with fail
    go_end0
    obtain ⟨P1, P2⟩ := HR2.out.put HB.out y ((n : Int) + 1)
    exact ⟨rfl, _, P1, P2⟩
end Go.Proofs.Ytlhdfdedhdcmiaa.QBits
namespace Go.Proofs.Ytlhdfdedhdcmiaa.QBits
open Go.RowKit Go.Proofs.YtlhdfdedhdcmiaaW.PrintWords Go.Proofs.YtlhdfdedhdcmiaaW.PrintLast Go.Proofs.YtlhdfdedhdcmiaaW.PrintMore Go.Proofs.YtlhdfdedhdcmiaaV
set_option linter.unusedVariables false
set_option linter.unusedSimpArgs false
def rawB (v : Int) : Nat → List Bool
  | 0 => []
  | n + 1 => decide ((v / 2 ^ n) % 2 = 1) :: rawB v n
def bI (b : Bool) : Int := if b then 1 else 0
theorem bit_val8 (B : List Bool) (b : Bool) : Go.bits .or .u8 (rd (if B.length % 8 = 0 then packB B ++ [0] else packB B) ((B.length / 8 : Nat) : Int)) (IntKind.u8.wrap (IntKind.i64.wrap (bI b * 2 ^ min (7 - B.length % 8) 64))) = ((byteB B (B.length / 8) + bw b (2 ^ (7 - B.length % 8)) : Nat) : Int) := by
  obtain ⟨_, q, hq⟩ := last_byte B b
  have hlt : byteB B (B.length / 8) < 256 := bsum_lt _
  have hrd : rd (if B.length % 8 = 0 then packB B ++ [0] else packB B) ((B.length / 8 : Nat) : Int) = ((byteB B (B.length / 8) : Nat) : Int) := by
    by_cases hm : B.length % 8 = 0
    · rw [if_pos hm]
      have hl : (packB B).length = B.length / 8 := by rw [packB_length]; omega
      have e : byteB B (B.length / 8) = 0 := by rw [hm] at hq; omega
      rw [e]
      unfold rd
      rw [Int.toNat_natCast, List.getD_eq_getElem?_getD, List.getElem?_append_right (by omega), hl]
      simp
    · rw [if_neg hm]
      exact packB_rd (by omega)
  have hs : (7 - B.length % 8) ≤ 7 := by omega
  rw [hrd]
  generalize byteB B (B.length / 8) = z at hq hlt ⊢
  have e8 : 8 - B.length % 8 = (7 - B.length % 8) + 1 := by have := Nat.mod_lt B.length (show 0 < 8 by omega); omega
  rw [e8] at hq
  generalize 7 - B.length % 8 = s at hs hq ⊢
  rw [Nat.min_eq_left (by omega)]
  have hp : (2 : Nat) ^ s ≤ 128 := Nat.pow_le_pow_right (n := 2) (by omega) hs
  have hp0 : 0 < (2 : Nat) ^ s := Nat.two_pow_pos s
  have ex : IntKind.u8.wrap (IntKind.i64.wrap (bI b * 2 ^ s)) = ((bw b (2 ^ s) : Nat) : Int) := by
    have e : bI b * 2 ^ s = ((bw b (2 ^ s) : Nat) : Int) := by
      cases b
      · simp [bI, bw]
      · simp [bI, bw]
    have h9 : bw b (2 ^ s) ≤ 128 := Nat.le_trans (bw_le b (2 ^ s)) hp
    rw [e]
    clear hq hp hp0 hrd e
    generalize bw b (2 ^ s) = zz at h9 ⊢
    rw [IntKind.wrap_i64, IntKind.wrap_u8]
    omega
  rw [ex]
  have hw := bw_le b (2 ^ s)
  have hw8 : bw b (2 ^ s) ≤ 128 := Nat.le_trans hw hp
  have hpp : ((bw b (2 ^ s) : Nat) : Int) < 2 ^ (s + 1) := by
    have h4 : (2 : Nat) ^ (s + 1) = 2 * 2 ^ s := by rw [Nat.pow_succ, Nat.mul_comm]
    have h5 : bw b (2 ^ s) < 2 ^ (s + 1) := by rw [h4]; exact Nat.lt_of_le_of_lt hw (by generalize 2 ^ s = t at hp0 ⊢; omega)
    exact_mod_cast h5
  clear hrd hp hp0 hw ex e8
  generalize bw b (2 ^ s) = zz at hw8 hpp ⊢
  rw [bits_join .u8 8 (by decide) (fun n h0 h1 => by rw [IntKind.wrap_u8]; omega) (s + 1) (z : Int) _ (Int.natCast_nonneg _) ?_ (by clear hpp hq; omega) (Int.natCast_nonneg _) hpp (by clear hpp hq; omega)]
  · clear hpp hq; omega
  · rw [hq]
    have h2 : (((q * 2 ^ (s + 1) : Nat)) : Int) % 2 ^ (s + 1) = 0 := by
      have h3 : (q * 2 ^ (s + 1)) % 2 ^ (s + 1) = 0 := Nat.mul_mod_left _ _
      exact_mod_cast h3
    exact h2
theorem bit_calls {w : World} {base g : Nat} {F : Nat → Prop} {B : List Bool} (h : IsW w base F g B) (hb : base ≤ w.heap.size) (hn : B.length < 67108864) (b : Bool) (x : Int) (hx : x = bI b) :
    Calls Try.prog 92 #[.pointer (some ⟨g, 0, none⟩), .int .i64 x] w fun e w' => e = .returned (.tuple #[]) ∧ ∃ F', IsW w' base F' g (B ++ [b]) ∧ Moved w w' F F' := by
  obtain ⟨gc, v, h, rfl⟩ := h
  subst hx
  refine (bit_raw g gc v (packB B) B.length (B.length / 8) (B.length % 8) (7 - B.length % 8) (bI b) base w h hb (by omega) (by omega) hn (by rw [packB_length]; split <;> omega) _ (bit_val8 B b)).mono ?_
  rintro e w' ⟨rfl, v', h1, h2⟩
  refine ⟨rfl, _, ⟨gc, v', ?_, rfl⟩, h2⟩
  rw [packB_snoc]
  simpa using h1
theorem shr1 {v : Int} {m : Nat} (h0 : 0 ≤ v) (h1 : v ≤ 9223372036854775807) : Go.bits .and .i64 (v / 2 ^ m) 1 = bI (decide ((v / 2 ^ m) % 2 = 1)) := by
  have h2 : 0 ≤ v / 2 ^ m := Int.ediv_nonneg h0 (Int.pow_nonneg (by omega))
  have h3 : v / 2 ^ m ≤ v := Int.ediv_le_self _ h0
  rw [i64_and_one h2 (by omega)]
  unfold bI
  by_cases e : (v / 2 ^ m) % 2 = 1
  · simp [e]
  · simp only [e, decide_false, if_neg]; simp; omega
theorem rawB_length (v : Int) : ∀ n, (rawB v n).length = n
  | 0 => rfl
  | n + 1 => by simp [rawB, rawB_length v n]
set_option maxHeartbeats 1000000 in
theorem raw_calls {w : World} {base g : Nat} {F : Nat → Prop} {B : List Bool} (h : IsW w base F g B) (hb : base ≤ w.heap.size) (v : Int) (n : Nat) (hv : 0 ≤ v) (hv1 : v ≤ 9223372036854775807) (hm : n ≤ 64) (hn : B.length + n < 67108864) :
    Calls Try.prog 82 #[.pointer (some ⟨g, 0, none⟩), .int .i64 v, .int .i64 (n : Int)] w fun e w' => e = .returned (.tuple #[]) ∧ ∃ F', IsW w' base F' g (B ++ rawB v n) ∧ Moved w w' F F' := by
  have H := Aside0.mk h
  have HB := Aside0.mk hb
  have HV := Aside0.mk hv
  have HV1 := Aside0.mk hv1
  have HM := Aside0.mk hm
  have HN := Aside0.mk hn
  clear h hb hv hv1 hm hn
  go_enter Try.func82, Try.ntmps82
  go_wp2_with fail
  go_loopg [6] (n + 1) (fun kq v6 w' => ∃ (m : Nat) (Fm : Nat → Prop) (Bm : List Bool), v6 = .int .i64 (IntKind.i64.wrap ((m : Int) - 1)) ∧ Aside0 (kq = m + 1) ∧ Aside0 (m ≤ n ∧ Bm ++ rawB v m = B ++ rawB v n) ∧ Aside0 (IsW w' base Fm g Bm) ∧ Aside0 (Moved w w' F Fm))
  case atStart =>
    exact ⟨n, F, B, by rw [i64_w], ⟨rfl⟩, ⟨⟨Nat.le_refl _, rfl⟩⟩, H, ⟨Moved.refl _ _⟩⟩
  case round =>
    obtain ⟨m, Fm, Bm, rfl, HQ, HE, HI, HMv⟩ := hrel
    cases m with
    | zero =>
      have e : IntKind.i64.wrap (((0 : Nat) : Int) - 1) = -1 := by decide
      rw [e]
      go_wp2_with fail
      go_end0
      have h9 := HE.out.2
      simp only [rawB, List.append_nil] at h9
      exact ⟨rfl, Fm, by rw [← h9]; exact HI.out, HMv.out⟩
    | succ m =>
      have e : IntKind.i64.wrap (((m + 1 : Nat) : Int) - 1) = (m : Int) := by have := HE.out.1; have := HM.out; rw [IntKind.wrap_i64]; omega
      rw [e]
      have sh : v / 2 ^ min m 64 = v / 2 ^ m := by have := HE.out.1; have := HM.out; rw [Nat.min_eq_left (by omega)]
      go_wp2_with fail
      refine (bit_calls HI.out (Nat.le_trans HB.out HMv.out.size) ?hn (decide ((v / 2 ^ m) % 2 = 1)) _ (shr1 HV.out HV1.out)).mono ?_
      case hn =>
        have h1 := congrArg List.length HE.out.2
        have h2 := HE.out.1
        have h3 := HN.out
        simp only [List.length_append, rawB_length] at h1
        omega
      rintro e w2 ⟨rfl, F2, I2, M2⟩
      have HI2 := Aside0.mk I2
      have HM2 := Aside0.mk (HMv.out.trans M2)
      clear I2 M2 HI HMv
      go_wp2_with fail
      go_roundg (m + 1)
      case measure => have := HQ.out; omega
      case rel =>
        refine ⟨m, F2, _, ?_, ⟨rfl⟩, ⟨⟨?_, ?_⟩⟩, HI2, HM2⟩
        · simp only [i64_w]
        · have := HE.out.1; omega
        · rw [← HE.out.2, List.append_assoc]; rfl
end Go.Proofs.Ytlhdfdedhdcmiaa.QBits
namespace Go.Proofs.Ytlhdfdedhdcmiaa.QBits
open Go.RowKit Go.Proofs.YtlhdfdedhdcmiaaW.PrintWords Go.Proofs.YtlhdfdedhdcmiaaW.PrintLast Go.Proofs.YtlhdfdedhdcmiaaW.PrintMore Go.Proofs.YtlhdfdedhdcmiaaV
set_option linter.unusedVariables false
set_option linter.unusedSimpArgs false
theorem zeros_calls {w : World} {base g : Nat} {F : Nat → Prop} {B : List Bool} (h : IsW w base F g B) (hb : base ≤ w.heap.size) (n : Nat) (hm : n ≤ 9223372036854775807) (hn : B.length + n + 1 < 67108864) :
    Calls Try.prog 83 #[.pointer (some ⟨g, 0, none⟩), .int .i64 (n : Int)] w fun e w' => e = .returned (.tuple #[]) ∧ ∃ F', IsW w' base F' g (B ++ (List.replicate n false ++ [true])) ∧ Moved w w' F F' := by
  have H := Aside0.mk h
  have HB := Aside0.mk hb
  have HM := Aside0.mk hm
  have HN := Aside0.mk hn
  clear h hb hm hn
  go_enter Try.func83, Try.ntmps83
  go_wp2_with fail
  go_loopg [5] (n + 1) (fun kq v5 w' => ∃ (m : Nat) (Fm : Nat → Prop), v5 = .int .i64 (m : Int) ∧ Aside0 (kq = n - m + 1) ∧ Aside0 (m ≤ n) ∧ Aside0 (IsW w' base Fm g (B ++ List.replicate m false)) ∧ Aside0 (Moved w w' F Fm))
  case atStart =>
    exact ⟨0, F, rfl, ⟨rfl⟩, ⟨Nat.zero_le _⟩, ⟨by simpa using H.out⟩, ⟨Moved.refl _ _⟩⟩
  case round =>
    obtain ⟨m, Fm, rfl, HQ, HE, HI, HMv⟩ := hrel
    by_cases hlt : m < n
    · have e1 : decide ((m : Int) < (n : Int)) = true := decide_eq_true (by omega)
      have e2 : decide (m < n) = true := decide_eq_true hlt
      have e3 : wrap64 ((m : Int) + 1) = ((m + 1 : Nat) : Int) := by have := HM.out; unfold wrap64; omega
      have HLT := Aside0.mk hlt
      clear hlt
      go_wp2_with fail
      refine (bit_calls HI.out (Nat.le_trans HB.out HMv.out.size) (by have := HN.out; have := HLT.out; simp; omega) false _ rfl).mono ?_
      rintro e w2 ⟨rfl, F2, I2, M2⟩
      have HI2 := Aside0.mk I2
      have HM2 := Aside0.mk (HMv.out.trans M2)
      clear I2 M2 HI HMv
      go_wp2_with fail
      go_roundg (n - (m + 1) + 1)
      case measure => have := HQ.out; have := HLT.out; omega
      case rel =>
        refine ⟨m + 1, F2, by rw [e3], ⟨rfl⟩, ⟨HLT.out⟩, ⟨?_⟩, HM2⟩
        have h9 := HI2.out
        rw [List.append_assoc] at h9
        rw [List.replicate_succ']
        exact h9
    · have hz : m = n := by have := HE.out; omega
      subst hz
      have e1 : decide ((m : Int) < (m : Int)) = false := by simp
      have e2 : decide (m < m) = false := by simp
      clear hlt
      go_wp2_with fail
      refine (bit_calls HI.out (Nat.le_trans HB.out HMv.out.size) (by have := HN.out; simp; omega) true _ rfl).mono ?_
      rintro e w2 ⟨rfl, F2, I2, M2⟩
      have HI2 := Aside0.mk I2
      have HM2 := Aside0.mk (HMv.out.trans M2)
      clear I2 M2 HI HMv
      go_wp2_with fail
      go_end0
      exact ⟨rfl, F2, by rw [← List.append_assoc]; exact HI2.out, HM2.out⟩
theorem dead_calls {w : World} {base g : Nat} {F : Nat → Prop} {B : List Bool} (h : IsW w base F g B) :
    Calls Try.prog 80 #[.pointer (some ⟨g, 0, none⟩)] w fun e w' => e = .returned (.bool false) ∧ ∃ m, w' = w.drewN m := by
  obtain ⟨gc, v, h, rfl⟩ := h
  have cg0 : w.cell? ⟨g, 0, none⟩ = some (.pointer (some ⟨gc, 0, none⟩)) := (blk_cell h.hg 0).trans rfl
  clear h
  go_enter Try.func80, Try.ntmps80
  go_wp2
  go_ret
  exact ⟨rfl, 0, rfl⟩
theorem room_calls {w : World} {base g : Nat} {F : Nat → Prop} {B : List Bool} (h : IsW w base F g B) (hl : B.length ≤ 67108864) (n : Int) (h0 : -4611686018427387904 ≤ n) (h1 : n ≤ 4611686018427387904) :
    Calls Try.prog 81 #[.pointer (some ⟨g, 0, none⟩), .int .i64 n] w fun e w' => e = .returned (.bool (decide ((B.length : Int) + n ≤ 8388608))) ∧ ∃ m, w' = w.drewN m := by
  obtain ⟨gc, v, h, rfl⟩ := h
  have cg0 : w.cell? ⟨g, 0, none⟩ = some (.pointer (some ⟨gc, 0, none⟩)) := (blk_cell h.hg 0).trans rfl
  have cc0 : w.cell? ⟨gc, 0, none⟩ = some (.int .i64 (B.length : Int)) := (blk_cell h.hc 0).trans rfl
  have e1 : IntKind.i64.wrap ((B.length : Int) + n) = (B.length : Int) + n := by rw [IntKind.wrap_i64]; omega
  have e2 : wrap64 ((B.length : Int) + n) = (B.length : Int) + n := by unfold wrap64; omega
  clear h hl h0 h1
  go_enter Try.func81, Try.ntmps81
  go_wp2
  go_ret
  exact ⟨by simp [e1, e2], 0, rfl⟩
theorem cLen_calls {w : World} {gc : Nat} {n : Int} (h : w.heap[gc]? = some (.cells #[.int .i64 n] 85 (0, 0))) :
    Calls Try.prog 79 #[.pointer (some ⟨gc, 0, none⟩)] w fun e w' => e = .returned (.int .i64 n) ∧ w' = w := by
  have cc0 : w.cell? ⟨gc, 0, none⟩ = some (.int .i64 n) := (blk_cell h 0).trans rfl
  clear h
  go_enter Try.func79, Try.ntmps79
  go_wp2
  go_ret
  exact ⟨rfl, rfl⟩
theorem wLen_calls {w : World} {base g : Nat} {F : Nat → Prop} {B : List Bool} (h : IsW w base F g B) :
    Calls Try.prog 54 #[.pointer (some ⟨g, 0, none⟩)] w fun e w' => e = .returned (.int .i64 (B.length : Int)) ∧ ∃ m, w' = w.drewN m := by
  obtain ⟨gc, v, h, rfl⟩ := h
  have cg0 : w.cell? ⟨g, 0, none⟩ = some (.pointer (some ⟨gc, 0, none⟩)) := (blk_cell h.hg 0).trans rfl
  have HC := Aside0.mk h.hc
  clear h
  go_enter Try.func54, Try.ntmps54
  go_wp2_with fail
  refine (cLen_calls HC.out).mono ?_
  rintro e w2 ⟨rfl, rfl⟩
  go_wp2
  go_ret
  exact ⟨rfl, 0, rfl⟩
end Go.Proofs.Ytlhdfdedhdcmiaa.QBits
namespace Go.Proofs.Ytlhdfdedhdcmiaa.QBits
open Go.RowKit Go.Proofs.YtlhdfdedhdcmiaaW.PrintWords Go.Proofs.YtlhdfdedhdcmiaaW.PrintLast Go.Proofs.YtlhdfdedhdcmiaaW.PrintMore Go.Proofs.YtlhdfdedhdcmiaaV
set_option linter.unusedVariables false
set_option linter.unusedSimpArgs false
def zerosB (n : Nat) : List Bool := List.replicate n false ++ [true]
def putF (v n : Int) (B : List Bool) : Int × List Bool := if n < 0 then (1, B) else if 32 < n then (1, B) else if v < 0 then (1, B) else if 0 < v / 2 ^ n.toNat then (1, B) else if (B.length : Int) + n ≤ 8388608 then (0, B ++ rawB v n.toNat) else (2, B)
def unaryF (n : Int) (B : List Bool) : Int × List Bool := if n < 0 then (1, B) else if 65535 < n then (1, B) else if (B.length : Int) + (n + 1) ≤ 8388608 then (0, B ++ zerosB n.toNat) else (2, B)
def riceF (v k : Int) (B : List Bool) : Int × List Bool := if k < 0 then (1, B) else if 24 < k then (1, B) else if v < 0 then (1, B) else if 65535 < v / 2 ^ k.toNat then (1, B) else if (B.length : Int) + (v / 2 ^ k.toNat + 1 + k) ≤ 8388608 then (0, B ++ zerosB (v / 2 ^ k.toNat).toNat ++ rawB v k.toNat) else (2, B)
def growF (v : Int) (B : List Bool) : Int × List Bool := if v < 0 then (1, B) else if 4294967294 < v then (1, B) else if (B.length : Int) + (2 * (Lib.bitLen (v + 1).toNat : Int) - 1) ≤ 8388608 then (0, B ++ zerosB (Lib.bitLen (v + 1).toNat - 1) ++ rawB (v + 1) (Lib.bitLen (v + 1).toNat - 1)) else (2, B)
def alignB (B : List Bool) : List Bool := B ++ List.replicate ((8 - B.length % 8) % 8) false
theorem put_calls {w : World} {base g : Nat} {F : Nat → Prop} {B : List Bool} (h : IsW w base F g B) (hb : base ≤ w.heap.size) (hl : B.length ≤ 8388608) (v n : Int) (hv1 : v ≤ 9223372036854775807) :
    Calls Try.prog 57 #[.pointer (some ⟨g, 0, none⟩), (.int .i64 v), (.int .i64 n)] w fun e w' => e = .returned (.int .i64 (putF v n B).1) ∧ ∃ F', IsW w' base F' g (putF v n B).2 ∧ Moved w w' F F' := by
  have H := Aside0.mk h
  have HB := Aside0.mk hb
  have HL := Aside0.mk hl
  have HV1 := Aside0.mk hv1
  clear h hb hl hv1
  unfold putF
  by_cases c1 : n < 0
  · rw [if_pos c1]
    have b1 : decide (n < 0) = true := decide_eq_true c1
    clear c1
    go_enter Try.func57, Try.ntmps57
    go_wp2_with fail
    refine (dead_calls H.out).mono ?_
    rintro e w1 ⟨rfl, m1, rfl⟩
    go_wp2_with fail
    go_ret
    exact ⟨rfl, F, H.out.drewN _, (Moved.refl _ _).drewN _⟩
  rw [if_neg c1]
  obtain ⟨m, rfl⟩ := Int.eq_ofNat_of_zero_le (show 0 ≤ n by omega)
  have b1 : decide ((m : Int) < 0) = false := decide_eq_false c1
  clear c1
  by_cases c2 : 32 < (m : Int)
  · rw [if_pos c2]
    have b2 : decide (32 < (m : Int)) = true := decide_eq_true c2
    have b3 : decide (32 < m) = true := decide_eq_true (by omega)
    clear c2
    go_enter Try.func57, Try.ntmps57
    go_wp2_with fail
    refine (dead_calls H.out).mono ?_
    rintro e w1 ⟨rfl, m1, rfl⟩
    go_wp2_with fail
    go_ret
    exact ⟨rfl, F, H.out.drewN _, (Moved.refl _ _).drewN _⟩
  rw [if_neg c2]
  have HM : Aside0 (m ≤ 32) := ⟨by omega⟩
  have b2 : decide (32 < (m : Int)) = false := decide_eq_false c2
  have b3 : decide (32 < m) = false := decide_eq_false (by omega)
  clear c2
  by_cases c3 : v < 0
  · rw [if_pos c3]
    have b4 : decide (v < 0) = true := decide_eq_true c3
    clear c3
    go_enter Try.func57, Try.ntmps57
    go_wp2_with fail
    refine (dead_calls H.out).mono ?_
    rintro e w1 ⟨rfl, m1, rfl⟩
    go_wp2_with fail
    go_ret
    exact ⟨rfl, F, H.out.drewN _, (Moved.refl _ _).drewN _⟩
  rw [if_neg c3, Int.toNat_natCast]
  have HV0 : Aside0 (0 ≤ v) := ⟨by omega⟩
  have b4 : decide (v < 0) = false := decide_eq_false c3
  clear c3
  have sh : v / 2 ^ min m 64 = v / 2 ^ m := by have := HM.out; rw [Nat.min_eq_left (by omega)]
  by_cases c4 : 0 < v / 2 ^ m
  · rw [if_pos c4]
    have b5 : decide (0 < v / 2 ^ m) = true := decide_eq_true c4
    clear c4
    go_enter Try.func57, Try.ntmps57
    go_wp2_with fail
    refine (dead_calls H.out).mono ?_
    rintro e w1 ⟨rfl, m1, rfl⟩
    go_wp2_with fail
    go_ret
    exact ⟨rfl, F, H.out.drewN _, (Moved.refl _ _).drewN _⟩
  rw [if_neg c4]
  have b5 : decide (0 < v / 2 ^ m) = false := decide_eq_false c4
  clear c4
  by_cases c6 : (B.length : Int) + (m : Int) ≤ 8388608
  · rw [if_pos c6]
    have HR := Aside0.mk c6
    clear c6
    go_enter Try.func57, Try.ntmps57
    go_wp2_with fail
    refine (dead_calls H.out).mono ?_
    rintro e w1 ⟨rfl, m1, rfl⟩
    go_wp2_with fail
    refine (room_calls (H.out.drewN m1) (by have := HL.out; omega) (m : Int) (by omega) (by have := HM.out; omega)).mono ?_
    rintro e w2 ⟨rfl, m2, rfl⟩
    rw [show decide ((B.length : Int) + (m : Int) ≤ 8388608) = true from decide_eq_true (by have := HR.out; omega)]
    go_wp2_with fail
    refine (raw_calls (H.out.drewN (m1 + m2)) HB.out v m HV0.out HV1.out (by have := HM.out; omega) (by have := HL.out; have := HM.out; omega)).mono ?_
    rintro e w3 ⟨rfl, F2, I2, M2⟩
    have HI2 := Aside0.mk I2
    have HM2 := Aside0.mk M2
    clear I2 M2
    go_wp2_with fail
    go_ret
    exact ⟨rfl, F2, HI2.out, ((Moved.refl w F).drewN (m1 + m2)).trans HM2.out⟩
  · rw [if_neg c6]
    have HR := Aside0.mk c6
    clear c6
    go_enter Try.func57, Try.ntmps57
    go_wp2_with fail
    refine (dead_calls H.out).mono ?_
    rintro e w1 ⟨rfl, m1, rfl⟩
    go_wp2_with fail
    refine (room_calls (H.out.drewN m1) (by have := HL.out; omega) (m : Int) (by omega) (by have := HM.out; omega)).mono ?_
    rintro e w2 ⟨rfl, m2, rfl⟩
    rw [show decide ((B.length : Int) + (m : Int) ≤ 8388608) = false from decide_eq_false (by have := HR.out; omega)]
    go_wp2_with fail
    go_ret
    exact ⟨rfl, F, H.out.drewN _, (Moved.refl _ _).drewN _⟩
theorem unary_calls {w : World} {base g : Nat} {F : Nat → Prop} {B : List Bool} (h : IsW w base F g B) (hb : base ≤ w.heap.size) (hl : B.length ≤ 8388608) (n : Int) :
    Calls Try.prog 58 #[.pointer (some ⟨g, 0, none⟩), (.int .i64 n)] w fun e w' => e = .returned (.int .i64 (unaryF n B).1) ∧ ∃ F', IsW w' base F' g (unaryF n B).2 ∧ Moved w w' F F' := by
  have H := Aside0.mk h
  have HB := Aside0.mk hb
  have HL := Aside0.mk hl
  clear h hb hl
  unfold unaryF
  by_cases c1 : n < 0
  · rw [if_pos c1]
    have b1 : decide (n < 0) = true := decide_eq_true c1
    clear c1
    go_enter Try.func58, Try.ntmps58
    go_wp2_with fail
    refine (dead_calls H.out).mono ?_
    rintro e w1 ⟨rfl, m1, rfl⟩
    go_wp2_with fail
    go_ret
    exact ⟨rfl, F, H.out.drewN _, (Moved.refl _ _).drewN _⟩
  rw [if_neg c1]
  obtain ⟨m, rfl⟩ := Int.eq_ofNat_of_zero_le (show 0 ≤ n by omega)
  have b1 : decide ((m : Int) < 0) = false := decide_eq_false c1
  clear c1
  by_cases c2 : 65535 < (m : Int)
  · rw [if_pos c2]
    have b2 : decide (65535 < (m : Int)) = true := decide_eq_true c2
    have b3 : decide (65535 < m) = true := decide_eq_true (by omega)
    clear c2
    go_enter Try.func58, Try.ntmps58
    go_wp2_with fail
    refine (dead_calls H.out).mono ?_
    rintro e w1 ⟨rfl, m1, rfl⟩
    go_wp2_with fail
    go_ret
    exact ⟨rfl, F, H.out.drewN _, (Moved.refl _ _).drewN _⟩
  rw [if_neg c2, Int.toNat_natCast]
  have HM : Aside0 (m ≤ 65535) := ⟨by omega⟩
  have b2 : decide (65535 < (m : Int)) = false := decide_eq_false c2
  have b3 : decide (65535 < m) = false := decide_eq_false (by omega)
  have e1 : wrap64 ((m : Int) + 1) = (m : Int) + 1 := by unfold wrap64; omega
  clear c2
  by_cases c6 : (B.length : Int) + ((m : Int) + 1) ≤ 8388608
  · rw [if_pos c6]
    have HR := Aside0.mk c6
    clear c6
    go_enter Try.func58, Try.ntmps58
    go_wp2_with fail
    refine (dead_calls H.out).mono ?_
    rintro e w1 ⟨rfl, m1, rfl⟩
    go_wp2_with fail
    rw [e1]
    refine (room_calls (H.out.drewN m1) (by have := HL.out; omega) ((m : Int) + 1) (by omega) (by have := HM.out; omega)).mono ?_
    rintro e w2 ⟨rfl, m2, rfl⟩
    rw [show decide ((B.length : Int) + ((m : Int) + 1) ≤ 8388608) = true from decide_eq_true (by have := HR.out; omega)]
    go_wp2_with fail
    refine (zeros_calls (H.out.drewN (m1 + m2)) HB.out m (by have := HM.out; omega) (by have := HL.out; have := HM.out; omega)).mono ?_
    rintro e w3 ⟨rfl, F2, I2, M2⟩
    have HI2 := Aside0.mk I2
    have HM2 := Aside0.mk M2
    clear I2 M2
    go_wp2_with fail
    go_ret
    exact ⟨rfl, F2, HI2.out, ((Moved.refl w F).drewN (m1 + m2)).trans HM2.out⟩
  · rw [if_neg c6]
    have HR := Aside0.mk c6
    clear c6
    go_enter Try.func58, Try.ntmps58
    go_wp2_with fail
    refine (dead_calls H.out).mono ?_
    rintro e w1 ⟨rfl, m1, rfl⟩
    go_wp2_with fail
    rw [e1]
    refine (room_calls (H.out.drewN m1) (by have := HL.out; omega) ((m : Int) + 1) (by omega) (by have := HM.out; omega)).mono ?_
    rintro e w2 ⟨rfl, m2, rfl⟩
    rw [show decide ((B.length : Int) + ((m : Int) + 1) ≤ 8388608) = false from decide_eq_false (by have := HR.out; omega)]
    go_wp2_with fail
    go_ret
    exact ⟨rfl, F, H.out.drewN _, (Moved.refl _ _).drewN _⟩
theorem rice_calls {w : World} {base g : Nat} {F : Nat → Prop} {B : List Bool} (h : IsW w base F g B) (hb : base ≤ w.heap.size) (hl : B.length ≤ 8388608) (v k : Int) (hv1 : v ≤ 9223372036854775807) :
    Calls Try.prog 59 #[.pointer (some ⟨g, 0, none⟩), (.int .i64 v), (.int .i64 k)] w fun e w' => e = .returned (.int .i64 (riceF v k B).1) ∧ ∃ F', IsW w' base F' g (riceF v k B).2 ∧ Moved w w' F F' := by
  have H := Aside0.mk h
  have HB := Aside0.mk hb
  have HL := Aside0.mk hl
  have HV1 := Aside0.mk hv1
  clear h hb hl hv1
  unfold riceF
  by_cases c1 : k < 0
  · rw [if_pos c1]
    have b1 : decide (k < 0) = true := decide_eq_true c1
    clear c1
    go_enter Try.func59, Try.ntmps59
    go_wp2_with fail
    refine (dead_calls H.out).mono ?_
    rintro e w1 ⟨rfl, m1, rfl⟩
    go_wp2_with fail
    go_ret
    exact ⟨rfl, F, H.out.drewN _, (Moved.refl _ _).drewN _⟩
  rw [if_neg c1]
  obtain ⟨m, rfl⟩ := Int.eq_ofNat_of_zero_le (show 0 ≤ k by omega)
  have b1 : decide ((m : Int) < 0) = false := decide_eq_false c1
  clear c1
  by_cases c2 : 24 < (m : Int)
  · rw [if_pos c2]
    have b2 : decide (24 < (m : Int)) = true := decide_eq_true c2
    have b3 : decide (24 < m) = true := decide_eq_true (by omega)
    clear c2
    go_enter Try.func59, Try.ntmps59
    go_wp2_with fail
    refine (dead_calls H.out).mono ?_
    rintro e w1 ⟨rfl, m1, rfl⟩
    go_wp2_with fail
    go_ret
    exact ⟨rfl, F, H.out.drewN _, (Moved.refl _ _).drewN _⟩
  rw [if_neg c2]
  have HM : Aside0 (m ≤ 24) := ⟨by omega⟩
  have b2 : decide (24 < (m : Int)) = false := decide_eq_false c2
  have b3 : decide (24 < m) = false := decide_eq_false (by omega)
  clear c2
  by_cases c3 : v < 0
  · rw [if_pos c3]
    have b4 : decide (v < 0) = true := decide_eq_true c3
    clear c3
    go_enter Try.func59, Try.ntmps59
    go_wp2_with fail
    refine (dead_calls H.out).mono ?_
    rintro e w1 ⟨rfl, m1, rfl⟩
    go_wp2_with fail
    go_ret
    exact ⟨rfl, F, H.out.drewN _, (Moved.refl _ _).drewN _⟩
  rw [if_neg c3, Int.toNat_natCast]
  have HV0 : Aside0 (0 ≤ v) := ⟨by omega⟩
  have b4 : decide (v < 0) = false := decide_eq_false c3
  clear c3
  have sh : v / 2 ^ min m 64 = v / 2 ^ m := by have := HM.out; rw [Nat.min_eq_left (by omega)]
  obtain ⟨z, hz⟩ : ∃ z : Nat, v / 2 ^ m = (z : Int) := Int.eq_ofNat_of_zero_le (Int.ediv_nonneg HV0.out (Int.pow_nonneg (by omega)))
  rw [hz] at sh ⊢
  by_cases c4 : 65535 < (z : Int)
  · rw [if_pos c4]
    have b5 : decide (65535 < (z : Int)) = true := decide_eq_true c4
    have b6 : decide (65535 < z) = true := decide_eq_true (by omega)
    clear c4
    go_enter Try.func59, Try.ntmps59
    go_wp2_with fail
    refine (dead_calls H.out).mono ?_
    rintro e w1 ⟨rfl, m1, rfl⟩
    go_wp2_with fail
    go_ret
    exact ⟨rfl, F, H.out.drewN _, (Moved.refl _ _).drewN _⟩
  rw [if_neg c4, Int.toNat_natCast]
  have HZ : Aside0 (z ≤ 65535) := ⟨by omega⟩
  have b5 : decide (65535 < (z : Int)) = false := decide_eq_false c4
  have b6 : decide (65535 < z) = false := decide_eq_false (by omega)
  have e1 : wrap64 ((z : Int) + 1) = (z : Int) + 1 := by unfold wrap64; omega
  have e2 : wrap64 ((z : Int) + 1 + (m : Int)) = (z : Int) + 1 + (m : Int) := by have := HM.out; unfold wrap64; omega
  clear c4
  by_cases c6 : (B.length : Int) + ((z : Int) + 1 + (m : Int)) ≤ 8388608
  · rw [if_pos c6]
    have HR := Aside0.mk c6
    clear c6
    go_enter Try.func59, Try.ntmps59
    go_wp2_with fail
    refine (dead_calls H.out).mono ?_
    rintro e w1 ⟨rfl, m1, rfl⟩
    go_wp2_with fail
    rw [e1, e2]
    refine (room_calls (H.out.drewN m1) (by have := HL.out; omega) ((z : Int) + 1 + (m : Int)) (by omega) (by have := HM.out; have := HZ.out; omega)).mono ?_
    rintro e w2 ⟨rfl, m2, rfl⟩
    rw [show decide ((B.length : Int) + ((z : Int) + 1 + (m : Int)) ≤ 8388608) = true from decide_eq_true (by have := HR.out; omega)]
    go_wp2_with fail
    refine (zeros_calls (H.out.drewN (m1 + m2)) HB.out z (by have := HZ.out; omega) (by have := HL.out; have := HZ.out; omega)).mono ?_
    rintro e w3 ⟨rfl, F2, I2, M2⟩
    have HI2 := Aside0.mk I2
    have HM2 := Aside0.mk M2
    clear I2 M2
    go_wp2_with fail
    refine (raw_calls HI2.out (Nat.le_trans HB.out HM2.out.size) v m HV0.out HV1.out (by have := HM.out; omega) (by have := HR.out; simp; omega)).mono ?_
    rintro e w4 ⟨rfl, F3, I3, M3⟩
    have HI3 := Aside0.mk I3
    have HM3 := Aside0.mk M3
    clear I3 M3
    go_wp2_with fail
    go_ret
    exact ⟨rfl, F3, HI3.out, (((Moved.refl w F).drewN (m1 + m2)).trans HM2.out).trans HM3.out⟩
  · rw [if_neg c6]
    have HR := Aside0.mk c6
    clear c6
    go_enter Try.func59, Try.ntmps59
    go_wp2_with fail
    refine (dead_calls H.out).mono ?_
    rintro e w1 ⟨rfl, m1, rfl⟩
    go_wp2_with fail
    rw [e1, e2]
    refine (room_calls (H.out.drewN m1) (by have := HL.out; omega) ((z : Int) + 1 + (m : Int)) (by omega) (by have := HM.out; have := HZ.out; omega)).mono ?_
    rintro e w2 ⟨rfl, m2, rfl⟩
    rw [show decide ((B.length : Int) + ((z : Int) + 1 + (m : Int)) ≤ 8388608) = false from decide_eq_false (by have := HR.out; omega)]
    go_wp2_with fail
    go_ret
    exact ⟨rfl, F, H.out.drewN _, (Moved.refl _ _).drewN _⟩
theorem bitLen_pos' {n : Nat} (h : 0 < n) : 0 < Lib.bitLen n := by
  show 0 < Lib.bitLenAux (63 + 1) n
  simp only [Lib.bitLenAux]
  rw [if_neg (by omega)]
  omega
theorem grow_calls {w : World} {base g : Nat} {F : Nat → Prop} {B : List Bool} (h : IsW w base F g B) (hb : base ≤ w.heap.size) (hl : B.length ≤ 8388608) (v : Int) :
    Calls Try.prog 60 #[.pointer (some ⟨g, 0, none⟩), (.int .i64 v)] w fun e w' => e = .returned (.int .i64 (growF v B).1) ∧ ∃ F', IsW w' base F' g (growF v B).2 ∧ Moved w w' F F' := by
  have H := Aside0.mk h
  have HB := Aside0.mk hb
  have HL := Aside0.mk hl
  clear h hb hl
  unfold growF
  by_cases c1 : v < 0
  · rw [if_pos c1]
    have b1 : decide (v < 0) = true := decide_eq_true c1
    clear c1
    go_enter Try.func60, Try.ntmps60
    go_wp2_with fail
    refine (dead_calls H.out).mono ?_
    rintro e w1 ⟨rfl, m1, rfl⟩
    go_wp2_with fail
    go_ret
    exact ⟨rfl, F, H.out.drewN _, (Moved.refl _ _).drewN _⟩
  rw [if_neg c1]
  have HV0 : Aside0 (0 ≤ v) := ⟨by omega⟩
  have b1 : decide (v < 0) = false := decide_eq_false c1
  clear c1
  by_cases c2 : 4294967294 < v
  · rw [if_pos c2]
    have b2 : decide (4294967294 < v) = true := decide_eq_true c2
    clear c2
    go_enter Try.func60, Try.ntmps60
    go_wp2_with fail
    refine (dead_calls H.out).mono ?_
    rintro e w1 ⟨rfl, m1, rfl⟩
    go_wp2_with fail
    go_ret
    exact ⟨rfl, F, H.out.drewN _, (Moved.refl _ _).drewN _⟩
  rw [if_neg c2]
  have HV1 : Aside0 (v ≤ 4294967294) := ⟨by omega⟩
  have b2 : decide (4294967294 < v) = false := decide_eq_false c2
  clear c2
  have HL1 : Aside0 (0 < Lib.bitLen (v + 1).toNat) := ⟨bitLen_pos' (by have := HV0.out; omega)⟩
  have HL2 : Aside0 (Lib.bitLen (v + 1).toNat ≤ 32) := ⟨Go.Proofs.Any.bitLen_le32 (v + 1) (by have := HV0.out; omega) (by have := HV1.out; omega)⟩
  have hlen : bits_Len.f (v + 1) = some (Lib.bitLen (v + 1).toNat : Int) := by have := HV0.out; have := HV1.out; unfold bits_Len.f; rw [if_pos (by omega), if_pos (by omega)]
  have HLEN := Aside0.mk hlen
  clear hlen
  generalize Lib.bitLen (v + 1).toNat = z at HL1 HL2 HLEN ⊢
  have e1 : wrap64 (v + 1) = v + 1 := by have := HV0.out; have := HV1.out; unfold wrap64; omega
  have e2 : IntKind.u64.wrap (v + 1) = v + 1 := by have := HV0.out; have := HV1.out; rw [IntKind.wrap_u64]; omega
  have e3 : wrap64 (wrap64 (2 * (z : Int)) - 1) = 2 * (z : Int) - 1 := by have := HL2.out; unfold wrap64; omega
  have e4 : wrap64 ((z : Int) - 1) = ((z - 1 : Nat) : Int) := by have := HL1.out; have := HL2.out; unfold wrap64; omega
  by_cases c6 : (B.length : Int) + (2 * (z : Int) - 1) ≤ 8388608
  · rw [if_pos c6]
    have HR := Aside0.mk c6
    clear c6
    go_enter Try.func60, Try.ntmps60
    go_wp2_with fail
    refine (dead_calls H.out).mono ?_
    rintro e w1 ⟨rfl, m1, rfl⟩
    go_wp2_with fail
    refine (bits_Len.calls (v + 1) _ _ HLEN.out).mono ?_
    rintro e w5 ⟨rfl, ⟨n5, rfl⟩⟩
    go_wp2_with fail
    refine (room_calls (H.out.drewN (m1 + n5)) (by have := HL.out; omega) (2 * (z : Int) - 1) (by omega) (by have := HL2.out; omega)).mono ?_
    rintro e w2 ⟨rfl, m2, rfl⟩
    rw [show decide ((B.length : Int) + (2 * (z : Int) - 1) ≤ 8388608) = true from decide_eq_true (by have := HR.out; omega)]
    go_wp2_with fail
    refine (zeros_calls (H.out.drewN (m1 + n5 + m2)) HB.out (z - 1) (by have := HL2.out; omega) (by have := HL.out; have := HL2.out; omega)).mono ?_
    rintro e w3 ⟨rfl, F2, I2, M2⟩
    have HI2 := Aside0.mk I2
    have HM2 := Aside0.mk M2
    clear I2 M2
    go_wp2_with fail
    refine (raw_calls HI2.out (Nat.le_trans HB.out HM2.out.size) (v + 1) (z - 1) (by have := HV0.out; omega) (by have := HV1.out; omega) (by have := HL2.out; omega) (by have := HR.out; have := HL1.out; simp; omega)).mono ?_
    rintro e w4 ⟨rfl, F3, I3, M3⟩
    have HI3 := Aside0.mk I3
    have HM3 := Aside0.mk M3
    clear I3 M3
    go_wp2_with fail
    go_ret
    exact ⟨rfl, F3, HI3.out, (((Moved.refl w F).drewN (m1 + n5 + m2)).trans HM2.out).trans HM3.out⟩
  · rw [if_neg c6]
    have HR := Aside0.mk c6
    clear c6
    go_enter Try.func60, Try.ntmps60
    go_wp2_with fail
    refine (dead_calls H.out).mono ?_
    rintro e w1 ⟨rfl, m1, rfl⟩
    go_wp2_with fail
    refine (bits_Len.calls (v + 1) _ _ HLEN.out).mono ?_
    rintro e w5 ⟨rfl, ⟨n5, rfl⟩⟩
    go_wp2_with fail
    refine (room_calls (H.out.drewN (m1 + n5)) (by have := HL.out; omega) (2 * (z : Int) - 1) (by omega) (by have := HL2.out; omega)).mono ?_
    rintro e w2 ⟨rfl, m2, rfl⟩
    rw [show decide ((B.length : Int) + (2 * (z : Int) - 1) ≤ 8388608) = false from decide_eq_false (by have := HR.out; omega)]
    go_wp2_with fail
    go_ret
    exact ⟨rfl, F, H.out.drewN _, (Moved.refl _ _).drewN _⟩
theorem packB_align (B : List Bool) : packB (alignB B) = packB B := by
  unfold packB alignB
  have hl : (B ++ List.replicate ((8 - B.length % 8) % 8) false).length = B.length + (8 - B.length % 8) % 8 := by simp
  rw [hl, show (B.length + (8 - B.length % 8) % 8 + 7) / 8 = (B.length + 7) / 8 by omega]
  apply List.map_congr_left
  intro i _
  congr 1
  unfold byteB
  congr 1
  funext j
  unfold bitAt
  rw [List.getD_eq_getElem?_getD, List.getD_eq_getElem?_getD]
  by_cases h : 8 * i + j < B.length
  · rw [List.getElem?_append_left h]
  · rw [List.getElem?_append_right (by omega), List.getElem?_eq_none (l := B) (by omega), List.getElem?_replicate]
    split <;> rfl
theorem alignB_length (B : List Bool) : (alignB B).length = (B.length + 7) / 8 * 8 := by unfold alignB; simp; omega
theorem RawW.count {W : World} {base g gc : Nat} {v : Value} {bs : List Int} {n : Int} (h : RawW W base g gc v bs n) (m : Int) :
    RawW ((W.setCell ⟨gc, 0, none⟩ (.int .i64 m)).drew) base g gc v bs m ∧ Moved W ((W.setCell ⟨gc, 0, none⟩ (.int .i64 m)).drew) (footW g gc v) (footW g gc v) := by
  obtain ⟨n1, n2, n3⟩ := h.ne
  refine ⟨⟨blk_far h.hg (p := ⟨gc, 0, none⟩) n1 _, ?_, own_setCell h.row (p := ⟨gc, 0, none⟩) n3 _, h.bg, h.bc⟩, ⟨rfl, rfl, rfl, by simp [World.setCell, World.drew], fun k hk hn => ?_, fun k hk => .inl hk⟩⟩
  · have h9 := blk_set h.hc 0 (.int .i64 m)
    simp at h9
    exact h9
  · exact Below.heap_setCell _ ⟨gc, 0, none⟩ _ k (fun e => hn (.inr (.inl e)))
theorem align_calls {w : World} {base g : Nat} {F : Nat → Prop} {B : List Bool} (h : IsW w base F g B) (hb : base ≤ w.heap.size) (hl : B.length ≤ 8388608) :
    Calls Try.prog 61 #[.pointer (some ⟨g, 0, none⟩)] w fun e w' => e = .returned (.tuple #[]) ∧ ∃ F', IsW w' base F' g (alignB B) ∧ Moved w w' F F' := by
  have H := Aside0.mk h
  obtain ⟨gc, v, h, hF⟩ := h
  have HR := Aside0.mk h
  have HF := Aside0.mk hF
  have cg0 : w.cell? ⟨g, 0, none⟩ = some (.pointer (some ⟨gc, 0, none⟩)) := (blk_cell h.hg 0).trans rfl
  have cc0 : w.cell? ⟨gc, 0, none⟩ = some (.int .i64 (B.length : Int)) := (blk_cell h.hc 0).trans rfl
  have fc0 := blk_frozen h.hc 0
  obtain ⟨p, hp⟩ : ∃ p, p = B.length + 7 := ⟨_, rfl⟩
  obtain ⟨q, hq⟩ : ∃ q, q = p / 8 := ⟨_, rfl⟩
  obtain ⟨r, hr⟩ : ∃ r, r = q * 8 := ⟨_, rfl⟩
  have e1 : wrap64 ((B.length : Int) + 7) = (p : Int) := by unfold wrap64; omega
  have e2 : IntKind.i64.wrap ((B.length : Int) + 7) = (p : Int) := by rw [IntKind.wrap_i64]; omega
  have e3 : (p : Int).tdiv 8 = (q : Int) := by rw [Int.tdiv_eq_ediv_of_nonneg (by omega)]; omega
  have e4 : (p : Int) / 8 = (q : Int) := by omega
  have e5 : IntKind.i64.wrap (q : Int) = (q : Int) := by rw [IntKind.wrap_i64]; omega
  have e6 : IntKind.i64.wrap ((q : Int) * 8) = (r : Int) := by rw [IntKind.wrap_i64]; omega
  have HA : Aside0 ((r : Int) = ((alignB B).length : Int)) := ⟨by rw [alignB_length]; omega⟩
  clear h hF hl hp hq hr cg0 cc0 fc0
  go_enter Try.func61, Try.ntmps61
  go_wp2_with fail
  refine (dead_calls H.out).mono ?_
  rintro e w1 ⟨rfl, hw⟩
  have HR1 : Aside0 (RawW w1 base g gc v (packB B) B.length) := ⟨by obtain ⟨m, rfl⟩ := hw; exact HR.out.same (Nat.le_refl _) (fun _ _ _ => rfl)⟩
  have HM1 : Aside0 (Moved w w1 F F) := ⟨by obtain ⟨m, rfl⟩ := hw; exact (Moved.refl _ _).drewN _⟩
  have cg0 : w1.cell? ⟨g, 0, none⟩ = some (.pointer (some ⟨gc, 0, none⟩)) := (blk_cell HR1.out.hg 0).trans rfl
  have cc0 : w1.cell? ⟨gc, 0, none⟩ = some (.int .i64 (B.length : Int)) := (blk_cell HR1.out.hc 0).trans rfl
  have fc0 := blk_frozen HR1.out.hc 0
  clear hw
  go_wp2_with fail
  go_still_tail 16, (by kernel_rfl)
  change wpList _ _ _ _ _ w1.drew
  go_wp2_with fail
  go_end0
  obtain ⟨P1, P2⟩ := HR1.out.count (r : Int)
  refine ⟨rfl, F, ⟨gc, v, ?_, HF.out⟩, HM1.out.trans (by rw [HF.out]; exact P2)⟩
  rw [packB_align, ← HA.out]
  exact P1
theorem bytes_calls {w : World} {base g : Nat} {F : Nat → Prop} {B : List Bool} (h : IsW w base F g B) (hl : B.length ≤ 67108864) :
    Calls Try.prog 55 #[.pointer (some ⟨g, 0, none⟩)] w fun e w' => ∃ v0, e = .returned v0 ∧ Kd.R (Kd.int .u8) 5 w' w.heap.size (fun _ => True) v0 (packB B) ∧ Below w.heap.size w w' := by
  have H := Aside0.mk h
  obtain ⟨gc, v, h, hF⟩ := h
  obtain ⟨A, c, rfl⟩ := own_slice h.row
  have info5 : (Try.prog.info? 5).map (fun i => (i.zero, i.size, i.bytes)) = some (some (.int .u8 0), 1, 1) := by kernel_rfl
  have HR := Aside0.mk h
  have HL := Aside0.mk hl
  have cg1 : w.cell? ⟨g, 1, none⟩ = some (.slice A (packB B).length c) := (blk_cell h.hg 1).trans rfl
  clear h hF hl
  go_enter Try.func55, Try.ntmps55
  go_wp2_with fail
  refine (dead_calls H.out).mono ?_
  rintro e w1 ⟨rfl, m1, rfl⟩
  go_wp2_with (at_builtin; refine print_append_row (w0 := w) (W := w.drewN m1) w.heap.size rfl _ (.tmp 8) 22 5 .u8 1 rfl Try.underlying22 info5 (by decide) (.slice none 0 0) [] (packB B) A (packB B).length c rfl rfl (own_nil _ _ _ _) ?_ (pw_below_drewN (Below.refl _ _) _) (Nat.le_refl _) (by have := HL.out; rw [packB_length]; simp; omega) ?_)
  · obtain ⟨A2, c2, e2, h2⟩ := own_reads HR.out.row
    simp only [Value.slice.injEq] at e2
    obtain ⟨rfl, -, rfl⟩ := e2
    exact h2.below (pw_below_drewN (Below.refl _ _) _)
  · intro v1 w1 hown hB hG hat
    have S1 := Aside0.mk hown
    have S2 := Aside0.mk hB
    clear hown hB hG hat
    go_wp2
    go_ret
    exact ⟨v1, rfl, Kd.R_of_own (h1 := fun _ => rfl) (by simpa [encs, nums] using S1.out) (fun _ _ => trivial), S2.out⟩
theorem new_calls (w : World) :
    Calls Try.prog 51 #[] w fun e w' => ∃ g F, e = .returned (.pointer (some ⟨g, 0, none⟩)) ∧ IsW w' w.heap.size F g [] ∧ Below w.heap.size w w' := by
  go_enter Try.func51, Try.ntmps51
  go_wp2
  go_ret
  have hs : (w.alloc (Obj.cells #[Value.int IntKind.i64 0] 85)).heap.size = w.heap.size + 1 := by show (w.heap.push _).size = _; simp
  refine ⟨w.heap.size + 1, _, rfl, ⟨w.heap.size, .slice none 0 0, ⟨?_, ?_, own_nil _ _ _ _, Nat.le_succ _, Nat.le_refl _⟩, rfl⟩, below_alloc (below_alloc (Below.refl _ _) _) _⟩
  · rw [← hs]
    simpa using heap_alloc_new (w.alloc (Obj.cells #[Value.int IntKind.i64 0] 85)) (Obj.cells #[Value.pointer (some ⟨w.heap.size, 0, none⟩), Value.slice none 0 0] 87)
  · have h1 : (w.alloc (Obj.cells #[Value.int IntKind.i64 0] 85)).heap[w.heap.size]? = some (Obj.cells #[Value.int IntKind.i64 0] 85) := by simpa using heap_alloc_new w (Obj.cells #[Value.int IntKind.i64 0] 85)
    exact ((below_alloc (Below.refl _ (w.alloc (Obj.cells #[Value.int IntKind.i64 0] 85))) _).block w.heap.size (by rw [hs]; omega)).trans h1
end Go.Proofs.Ytlhdfdedhdcmiaa.QBits
