/- A lemma file: what a call on things with blocks of their own turns. No condition. -/
import Derived.Test.YtaebgjdaoloceaaVPlain
namespace Go.Proofs.YtaebgjdaoloceaaV
open Go.RowKit Go.Proofs.YtaebgjdaoloceaaW.PrintWords
/-- What a call on things with the blocks F has turned: nothing but these; F' are theirs behind it. -/
structure Moved (w w' : World) (F F' : Nat → Prop) : Prop where
  os : w'.os = w.os
  tape : w'.tape = w.tape
  output : w'.output = w.output
  size : w.heap.size ≤ w'.heap.size
  block : ∀ k, k < w.heap.size → ¬ F k → w'.heap[k]? = w.heap[k]?
  sub : ∀ k, F' k → F k ∨ w.heap.size ≤ k
theorem Moved.refl (w : World) (F : Nat → Prop) : Moved w w F F := ⟨rfl, rfl, rfl, Nat.le_refl _, fun _ _ _ => rfl, fun _ h => .inl h⟩
theorem Moved.trans {a b c : World} {F G H : Nat → Prop} (h : Moved a b F G) (k : Moved b c G H) : Moved a c F H :=
  ⟨k.os.trans h.os, k.tape.trans h.tape, k.output.trans h.output, Nat.le_trans h.size k.size,
   fun i hi hn => (k.block i (Nat.lt_of_lt_of_le hi h.size) (fun hg => (h.sub i hg).elim hn (fun hs => absurd hi (by omega)))).trans (h.block i hi hn),
   fun i hi => (k.sub i hi).elim (fun hg => h.sub i hg) (fun hs => .inr (Nat.le_trans h.size hs))⟩
theorem Moved.below {w w' : World} {F F' : Nat → Prop} {base : Nat} (h : Moved w w' F F') (hF : ∀ k, F k → base ≤ k) (hb : base ≤ w.heap.size) : Below base w w' :=
  ⟨h.os, h.tape, h.output, h.size, fun k hk => h.block k (by omega) (fun hf => absurd (hF k hf) (by omega))⟩
theorem Moved.of_below {w w' : World} {F : Nat → Prop} (h : Below w.heap.size w w') : Moved w w' F F := ⟨h.os, h.tape, h.output, h.size, fun k hk _ => h.block k hk, fun _ h => .inl h⟩
theorem Moved.drewN {a b : World} {F G : Nat → Prop} (h : Moved a b F G) (m : Nat) : Moved a (b.drewN m) F G := ⟨h.os, h.tape, h.output, h.size, h.block, h.sub⟩
end Go.Proofs.YtaebgjdaoloceaaV
