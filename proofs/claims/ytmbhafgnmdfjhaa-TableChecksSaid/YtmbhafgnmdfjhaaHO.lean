/- A lemma file: an entry in a made row, written field by field. No condition. -/
import Derived.Test.YtmbhafgnmdfjhaaHT
namespace Go.Proofs.Ytmbhafgnmdfjhaa.QTab
open Go.RowKit Go.Proofs.YtmbhafgnmdfjhaaW.PrintWords Go.Proofs.YtmbhafgnmdfjhaaW.PrintLast Go.Proofs.YtmbhafgnmdfjhaaW.PrintMore Go.Proofs.YtmbhafgnmdfjhaaV
set_option linter.unusedVariables false
set_option linter.unusedSimpArgs false
def cells48 (x : S48) (v : Value) : List Value := [.int .i64 x.f0, .int .i64 x.f1, .int .i64 x.f2, .int .i64 x.f3, .int .i64 x.f4, .int .i64 x.f5, .bool x.f6, v]
abbrev Outs (w : World) (base g n cap : Nat) (xs : List S48) : Prop := Kd.S k48 48 w base (fun _ => True) (.slice (some ⟨g, 0, none⟩) n cap) xs
theorem cell_far {w : World} {p q : Addr} {u v : Value} (h : w.cell? q = some v) (hn : q.block ≠ p.block) : (w.setCell p u).cell? q = some v := by
  unfold World.cell? at h ⊢
  rw [Below.heap_setCell w p u q.block hn]
  exact h
/-- Element i of the row is lent: it is x now, its list lies at v, its blocks are oki. -/
structure HoleO (w : World) (base g n cap : Nat) (xs : List S48) (i : Nat) (x : S48) (v : Value) (oki : Nat → Prop) : Prop where
  lt : i < n
  ne : ∀ k, oki k → k ≠ g
  h : Kd.H k48 48 w base (fun _ => True) (.slice (some ⟨g, 0, none⟩) n cap) xs (i : Int) oki (cells48 x v)
  r : (Kd.int .i64).R 3 w base oki v x.f7
def Hole (w : World) (base g n cap : Nat) (xs : List S48) (i : Nat) (x : S48) (v : Value) : Prop := ∃ oki, HoleO w base g n cap xs i x v oki
section
variable {w w1 : World} {base g n cap i : Nat} {xs : List S48} {x x' : S48} {v v' : Value} {oki : Nat → Prop}
theorem Hole.lend (h : Outs w base g n cap xs) (hi : i < n) : ∃ v, Hole w base g n cap xs i (xs.getD i z48) v := by
  obtain ⟨oki, c, _, hM, _, hok, hH⟩ := Kd.S_lend h z48 (i : Int) (by omega) (by omega)
  rw [Int.toNat_natCast] at hM
  obtain ⟨v, rfl, hR⟩ := k48_openM hM
  exact ⟨v, oki, hi, fun k hk => (hok k hk).2, hH, hR⟩
theorem HoleO.cell (h : HoleO w base g n cap xs i x v oki) (j : Nat) (u : Value) (hj : (cells48 x v)[j]? = some u) : w.cell? ⟨g, i * 8 + j, none⟩ = some u := by
  obtain ⟨rows, _, _, _, _, hc, _⟩ := Kd.H_raw h.h (by omega) (by have := h.lt; omega)
  have := hc j u hj
  rwa [Int.toNat_natCast] at this
theorem HoleO.frozen (h : HoleO w base g n cap xs i x v oki) (j : Nat) : w.frozen? ⟨g, i * 8 + j, none⟩ = false := by
  obtain ⟨rows, _, hr, _, _, hc, _⟩ := Kd.H_raw h.h (by omega) (by have := h.lt; omega)
  obtain ⟨_, _, _, _, hf⟩ := Kd.R_elem hr [] (i : Int) (by omega) (by have := h.lt; omega)
  have := hf j
  rwa [Int.toNat_natCast] at this
theorem HoleO.widen (h : HoleO w base g n cap xs i x v oki) : HoleO w base g n cap xs i x v (fun k => oki k ∨ True ∧ w.heap.size ≤ k) :=
  ⟨h.lt, fun k hk => hk.elim (h.ne k) (fun h2 => by
    obtain ⟨_, _, hr, _, _, _, _⟩ := Kd.H_raw h.h (by omega) (by have := h.lt; omega)
    have := Kd.R_lt hr g (by simp [Value.ownBlock])
    omega), Kd.H_widen h.h, Kd.R_mono h.r (fun k hk => Or.inl hk)⟩
theorem HoleO.below (h : HoleO w base g n cap xs i x v oki) (hb : Below w.heap.size w w1) : HoleO w1 base g n cap xs i x v oki := ⟨h.lt, h.ne, Kd.H_below h.h hb, Kd.R_below h.r hb⟩
theorem HoleO.put (h : HoleO w base g n cap xs i x v oki) (j : Nat) (u : Value) (hu : u.oneCell' = true) (hj : j < 8) (hc : (cells48 x v).take j ++ [u] ++ (cells48 x v).drop (j + 1) = cells48 x' v') (hr : (Kd.int .i64).R 3 w base oki v' x'.f7) :
    HoleO (w.setCell ⟨g, i * 8 + j, none⟩ u) base g n cap xs i x' v' oki ∧ w.grownBy (w.setCell ⟨g, i * 8 + j, none⟩ u) (some g) := by
  obtain ⟨h2, h3⟩ := Kd.H_seg h.h (by omega) (by have := h.lt; omega) (seg := [u]) (j := j) (show j + 1 ≤ 8 by omega) (fun q hq => by rw [List.mem_singleton] at hq; rw [hq]; exact hu)
  rw [Int.toNat_natCast] at h2 h3
  rw [show (cells48 x v).take j ++ [u] ++ (cells48 x v).drop (j + [u].length) = cells48 x' v' from hc] at h2
  exact ⟨⟨h.lt, h.ne, h2, Kd.R_far (p := ⟨g, i * 8 + j, none⟩) hr (fun k hk => h.ne k hk) u⟩, h3⟩
theorem HoleO.back (h : HoleO w base g n cap xs i x v oki) : Outs w base g n cap (xs.set i x) := by
  have := Kd.H_back h.h (k48_mkM w base oki x h.r) (fun _ hk => hk)
  rwa [Int.toNat_natCast] at this
theorem HoleO.gb (h : HoleO w base g n cap xs i x v oki) : base ≤ g := by
  obtain ⟨_, _, hr, _, _, _, _⟩ := Kd.H_raw h.h (by omega) (by have := h.lt; omega)
  exact Kd.R_base hr g (by simp [Value.ownBlock])
/-- The element's list has been appended to; then its field is written. -/
theorem HoleO.appended (h : HoleO w base g n cap xs i x v oki) (hg : w.grownBy w1 v.ownBlock) {ys : List Int} (hr : (Kd.int .i64).R 3 w1 base oki v' ys) :
    HoleO (w1.setCell ⟨g, i * 8 + 7, none⟩ v') base g n cap xs i { x with f7 := ys } v' oki ∧ w1.grownBy (w1.setCell ⟨g, i * 8 + 7, none⟩ v') (some g) := by
  have hH := Kd.H_grown h.h hg (fun k hk => h.r.1 k hk)
  obtain ⟨A, c, hv⟩ := Kd.R_slice hr
  obtain ⟨h2, h3⟩ := Kd.H_seg hH (by omega) (by have := h.lt; omega) (seg := [v']) (j := 7) (show 7 + 1 ≤ 8 by omega) (fun q hq => by rw [List.mem_singleton] at hq; rw [hq, hv]; rfl)
  rw [Int.toNat_natCast] at h2 h3
  exact ⟨⟨h.lt, h.ne, h2, Kd.R_far (p := ⟨g, i * 8 + 7, none⟩) hr (fun k hk => h.ne k hk) v'⟩, h3⟩
end
structure Put (w0 w : World) (g n cap : Nat) (xs : List S48) (i : Nat) (x : S48) (v : Value) (oki : Nat → Prop) : Prop where
  h : HoleO w w0.heap.size g n cap xs i x v oki
  b : Below w0.heap.size w0 w
section
variable {w0 w w1 : World} {g n cap i : Nat} {xs : List S48} {x : S48} {v v' : Value} {oki : Nat → Prop}
theorem Put.drew (h : Put w0 w g n cap xs i x v oki) : Put w0 w.drew g n cap xs i x v oki := ⟨h.h.below (below_drew (Below.refl _ _)), below_drew h.b⟩
theorem Put.drewN (h : Put w0 w g n cap xs i x v oki) (m : Nat) : Put w0 (w.drewN m) g n cap xs i x v oki := ⟨h.h.below (pw_below_drewN (Below.refl _ _) m), pw_below_drewN h.b m⟩
theorem Put.put (h : Put w0 w g n cap xs i x v oki) (j : Nat) (u : Value) (hu : u.oneCell' = true) (hj : j < 8) (x' : S48) (hc : (cells48 x v).take j ++ [u] ++ (cells48 x v).drop (j + 1) = cells48 x' v) (h7 : x'.f7 = x.f7) :
    Put w0 (w.setCell ⟨g, i * 8 + j, none⟩ u) g n cap xs i x' v oki := by
  obtain ⟨h1, h2⟩ := h.h.put j u hu hj hc (by rw [h7]; exact h.h.r)
  exact ⟨h1, pw_below_grown h.b (some g) h.b.size h2 (fun k hk => by injection hk with hk; subst hk; exact h.h.gb)⟩
theorem Put.widen (h : Put w0 w g n cap xs i x v oki) : Put w0 w g n cap xs i x v (fun k => oki k ∨ True ∧ w.heap.size ≤ k) := ⟨h.h.widen, h.b⟩
theorem Put.after (h : Put w0 w g n cap xs i x v oki) (hg : w.grownBy w1 v.ownBlock) : w1.cell? ⟨g, i * 8 + 7, none⟩ = some v ∧ w1.frozen? ⟨g, i * 8 + 7, none⟩ = false := by
  have hH := Kd.H_grown h.h.h hg (fun k hk => h.h.r.1 k hk)
  obtain ⟨rows, _, hr, _, _, hc, _⟩ := Kd.H_raw hH (by omega) (by have := h.h.lt; omega)
  obtain ⟨_, _, _, _, hf⟩ := Kd.R_elem hr [] (i : Int) (by omega) (by have := h.h.lt; omega)
  have h1 := hc 7 v rfl
  have h2 := hf 7
  rw [Int.toNat_natCast] at h1 h2
  exact ⟨h1, h2⟩
theorem Put.appended (h : Put w0 w g n cap xs i x v oki) (hg : w.grownBy w1 v.ownBlock) {ys : List Int} (hr : (Kd.int .i64).R 3 w1 w0.heap.size oki v' ys) :
    Put w0 (w1.setCell ⟨g, i * 8 + 7, none⟩ v') g n cap xs i { x with f7 := ys } v' oki := by
  obtain ⟨h1, h2⟩ := h.h.appended hg hr
  exact ⟨h1, pw_below_grown (pw_below_grown h.b v.ownBlock h.b.size hg (fun k hk => Kd.R_base h.h.r k hk)) (some g) (Nat.le_trans h.b.size hg.size) h2 (fun k hk => by injection hk with hk; subst hk; exact h.h.gb)⟩
end
end Go.Proofs.Ytmbhafgnmdfjhaa.QTab
