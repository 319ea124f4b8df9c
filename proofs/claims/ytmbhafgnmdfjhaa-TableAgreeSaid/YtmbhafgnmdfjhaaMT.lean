/- A lemma file: tables as one value, and their rows. No condition. A lemma file: an entry in a made row, written field by field. No condition. A lemma file: dioramalaw09.small, walked. No condition. -/
import Derived.Test.YtmbhafgnmdfjhaaVRows
import Derived.Test.YtmbhafgnmdfjhaaQTabx3
import Derived.Test.YtmbhafgnmdfjhaaQTabx6
import Derived.Test.YtmbhafgnmdfjhaaQTabx5
import Derived.Deep.QuietTactic
import Derived.BigQuiet
namespace Go.Proofs.Ytmbhafgnmdfjhaa.QTab
open Go.RowKit Go.Proofs.YtmbhafgnmdfjhaaW.PrintWords Go.Proofs.YtmbhafgnmdfjhaaW.PrintLast Go.Proofs.YtmbhafgnmdfjhaaW.PrintMore Go.Proofs.YtmbhafgnmdfjhaaV
set_option linter.unusedVariables false
set_option linter.unusedSimpArgs false
/-- Where the lists of tables lie. -/
structure D27 where
  A1 : Option Addr
  c1 : Nat
  A2 : Option Addr
  c2 : Nat
  A3 : Option Addr
  c3 : Nat
  A6 : Option Addr
  c6 : Nat
  A7 : Option Addr
  c7 : Nat
  A8 : Option Addr
  c8 : Nat
  A9 : Option Addr
  c9 : Nat
  A10 : Option Addr
  c10 : Nat
def cells27 (t : S27) (d : D27) : Array Value := #[.int .i64 t.f0, .slice d.A1 t.f1.length d.c1, .slice d.A2 t.f2.length d.c2, .slice d.A3 t.f3.length d.c3, .bool t.f4, .int .i64 t.f5, .slice d.A6 t.f6.length d.c6, .slice d.A7 t.f7.length d.c7, .slice d.A8 t.f8.length d.c8, .slice d.A9 t.f9.length d.c9, .slice d.A10 t.f10.length d.c10]
structure R27 (w : World) (t : S27) (d : D27) : Prop where
  r1 : Kd.C k83 w d.A1 t.f1.length t.f1
  r2 : Kd.C k83 w d.A2 t.f2.length t.f2
  r3 : Kd.C (Kd.int .i64) w d.A3 t.f3.length t.f3
  r6 : Kd.C (Kd.int .i64) w d.A6 t.f6.length t.f6
  r7 : Kd.C k86 w d.A7 t.f7.length t.f7
  r8 : Kd.C (Kd.int .i64) w d.A8 t.f8.length t.f8
  r9 : Kd.C k83 w d.A9 t.f9.length t.f9
  r10 : Kd.C (Kd.slice 3 (Kd.int .i64)) w d.A10 t.f10.length t.f10
  c1 : t.f1.length ≤ d.c1
  c2 : t.f2.length ≤ d.c2
  c3 : t.f3.length ≤ d.c3
  c6 : t.f6.length ≤ d.c6
  c7 : t.f7.length ≤ d.c7
  c8 : t.f8.length ≤ d.c8
  c9 : t.f9.length ≤ d.c9
  c10 : t.f10.length ≤ d.c10
theorem R27.below {w w1 : World} {t : S27} {d : D27} (h : R27 w t d) (hb : Below w.heap.size w w1) : R27 w1 t d :=
  ⟨Kd.C_below h.r1 hb, Kd.C_below h.r2 hb, Kd.C_below h.r3 hb, Kd.C_below h.r6 hb, Kd.C_below h.r7 hb, Kd.C_below h.r8 hb, Kd.C_below h.r9 hb, Kd.C_below h.r10 hb, h.c1, h.c2, h.c3, h.c6, h.c7, h.c8, h.c9, h.c10⟩
/-- A variable that holds tables. -/
def Box27 (w : World) (g : Nat) (t : S27) (d : D27) : Prop := w.heap[g]? = some (.cells (cells27 t d) 27 (0, 0))
theorem Box27.cells {w : World} {g : Nat} {t : S27} {d : D27} (h : Box27 w g t d) : w.cell? ⟨g, 0, none⟩ = some (.int .i64 t.f0) ∧ w.cell? ⟨g, 1, none⟩ = some (.slice d.A1 t.f1.length d.c1) ∧ w.cell? ⟨g, 2, none⟩ = some (.slice d.A2 t.f2.length d.c2) ∧ w.cell? ⟨g, 3, none⟩ = some (.slice d.A3 t.f3.length d.c3) ∧ w.cell? ⟨g, 4, none⟩ = some (.bool t.f4) ∧ w.cell? ⟨g, 5, none⟩ = some (.int .i64 t.f5) ∧ w.cell? ⟨g, 6, none⟩ = some (.slice d.A6 t.f6.length d.c6) ∧ w.cell? ⟨g, 7, none⟩ = some (.slice d.A7 t.f7.length d.c7) ∧ w.cell? ⟨g, 8, none⟩ = some (.slice d.A8 t.f8.length d.c8) ∧ w.cell? ⟨g, 9, none⟩ = some (.slice d.A9 t.f9.length d.c9) ∧ w.cell? ⟨g, 10, none⟩ = some (.slice d.A10 t.f10.length d.c10) :=
  ⟨(blk_cell h 0).trans rfl, (blk_cell h 1).trans rfl, (blk_cell h 2).trans rfl, (blk_cell h 3).trans rfl, (blk_cell h 4).trans rfl, (blk_cell h 5).trans rfl, (blk_cell h 6).trans rfl, (blk_cell h 7).trans rfl, (blk_cell h 8).trans rfl, (blk_cell h 9).trans rfl, (blk_cell h 10).trans rfl⟩
theorem Box27.below {w w1 : World} {g : Nat} {t : S27} {d : D27} (h : Box27 w g t d) (hb : Below w.heap.size w w1) : Box27 w1 g t d := blk_below h hb
theorem Box27.grown {w w1 : World} {g : Nat} {t : S27} {d : D27} {row : Option Nat} (h : Box27 w g t d) (hg : w.grownBy w1 row) (hne : some g ≠ row) : Box27 w1 g t d := blk_grown h hg hne
theorem Box27.lt {w : World} {g : Nat} {t : S27} {d : D27} (h : Box27 w g t d) : g < w.heap.size := blk_lt h
structure St4 (w w' : World) (g : Nat) (t : S27) (d : D27) : Prop where
  b : Below w.heap.size w w'
  k : Box27 w' g t d
  r : R27 w' t d
theorem St4.step {w w1 w2 : World} {g : Nat} {t : S27} {d : D27} (h : St4 w w1 g t d) (hb : Below w1.heap.size w1 w2) : St4 w w2 g t d := ⟨below_step h.b hb, h.k.below hb, h.r.below hb⟩
def St4c (w w' : World) (g : Nat) (t : S27) (d : D27) : Prop := w'.cell? ⟨g, 0, none⟩ = some (.int .i64 t.f0) ∧ w'.cell? ⟨g, 1, none⟩ = some (.slice d.A1 t.f1.length d.c1) ∧ w'.cell? ⟨g, 2, none⟩ = some (.slice d.A2 t.f2.length d.c2) ∧ w'.cell? ⟨g, 3, none⟩ = some (.slice d.A3 t.f3.length d.c3) ∧ w'.cell? ⟨g, 4, none⟩ = some (.bool t.f4) ∧ w'.cell? ⟨g, 5, none⟩ = some (.int .i64 t.f5) ∧ w'.cell? ⟨g, 6, none⟩ = some (.slice d.A6 t.f6.length d.c6) ∧ w'.cell? ⟨g, 7, none⟩ = some (.slice d.A7 t.f7.length d.c7) ∧ w'.cell? ⟨g, 8, none⟩ = some (.slice d.A8 t.f8.length d.c8) ∧ w'.cell? ⟨g, 9, none⟩ = some (.slice d.A9 t.f9.length d.c9) ∧ w'.cell? ⟨g, 10, none⟩ = some (.slice d.A10 t.f10.length d.c10) ∧ St4 w w' g t d
theorem St4.all {w w' : World} {g : Nat} {t : S27} {d : D27} (h : St4 w w' g t d) : St4c w w' g t d := by
  obtain ⟨q0, q1, q2, q3, q4, q5, q6, q7, q8, q9, q10⟩ := h.k.cells
  exact ⟨q0, q1, q2, q3, q4, q5, q6, q7, q8, q9, q10, h⟩
end Go.Proofs.Ytmbhafgnmdfjhaa.QTab
namespace Go.Proofs.Ytmbhafgnmdfjhaa.QTab
open Go.RowKit Go.Proofs.YtmbhafgnmdfjhaaW.PrintWords Go.Proofs.YtmbhafgnmdfjhaaW.PrintLast Go.Proofs.YtmbhafgnmdfjhaaW.PrintMore Go.Proofs.YtmbhafgnmdfjhaaV
set_option linter.unusedVariables false
set_option linter.unusedSimpArgs false
def cells48 (x : S48) (v : Value) : List Value := [.int .i64 x.f0, .int .i64 x.f1, .int .i64 x.f2, .int .i64 x.f3, .int .i64 x.f4, .int .i64 x.f5, .bool x.f6, v]
abbrev Outs (w : World) (base g n cap : Nat) (xs : List S48) : Prop := Kd.S k48 48 w base (fun _ => True) (.slice (some ⟨g, 0, none⟩) n cap) xs
theorem cell_far {w : World} {p q : Addr} {u v : Value} (h : w.cell? q = some v) (hn : q.block ≠ p.block) : (w.setCell p u).cell? q = some v := by
  unfold World.cell? at h ⊢
  rw [Below.heap_setCell w p u q.block hn]
  exact h
/-- Element i of the row is lent: it is x now, its list lies at v, its blocks are oki. -/
structure HoleO (w : World) (base g n cap : Nat) (xs : List S48) (i : Nat) (x : S48) (v : Value) (oki : Nat → Prop) : Prop where
  lt : i < n
  ne : ∀ k, oki k → k ≠ g
  h : Kd.H k48 48 w base (fun _ => True) (.slice (some ⟨g, 0, none⟩) n cap) xs (i : Int) oki (cells48 x v)
  r : (Kd.int .i64).R 3 w base oki v x.f7
def Hole (w : World) (base g n cap : Nat) (xs : List S48) (i : Nat) (x : S48) (v : Value) : Prop := ∃ oki, HoleO w base g n cap xs i x v oki
section
variable {w w1 : World} {base g n cap i : Nat} {xs : List S48} {x x' : S48} {v v' : Value} {oki : Nat → Prop}
theorem Hole.lend (h : Outs w base g n cap xs) (hi : i < n) : ∃ v, Hole w base g n cap xs i (xs.getD i z48) v := by
  obtain ⟨oki, c, _, hM, _, hok, hH⟩ := Kd.S_lend h z48 (i : Int) (by omega) (by omega)
  rw [Int.toNat_natCast] at hM
  obtain ⟨v, rfl, hR⟩ := k48_openM hM
  exact ⟨v, oki, hi, fun k hk => (hok k hk).2, hH, hR⟩
theorem HoleO.cell (h : HoleO w base g n cap xs i x v oki) (j : Nat) (u : Value) (hj : (cells48 x v)[j]? = some u) : w.cell? ⟨g, i * 8 + j, none⟩ = some u := by
  obtain ⟨rows, _, _, _, _, hc, _⟩ := Kd.H_raw h.h (by omega) (by have := h.lt; omega)
  have := hc j u hj
  rwa [Int.toNat_natCast] at this
theorem HoleO.frozen (h : HoleO w base g n cap xs i x v oki) (j : Nat) : w.frozen? ⟨g, i * 8 + j, none⟩ = false := by
  obtain ⟨rows, _, hr, _, _, hc, _⟩ := Kd.H_raw h.h (by omega) (by have := h.lt; omega)
  obtain ⟨_, _, _, _, hf⟩ := Kd.R_elem hr [] (i : Int) (by omega) (by have := h.lt; omega)
  have := hf j
  rwa [Int.toNat_natCast] at this
theorem HoleO.widen (h : HoleO w base g n cap xs i x v oki) : HoleO w base g n cap xs i x v (fun k => oki k ∨ True ∧ w.heap.size ≤ k) :=
  ⟨h.lt, fun k hk => hk.elim (h.ne k) (fun h2 => by
    obtain ⟨_, _, hr, _, _, _, _⟩ := Kd.H_raw h.h (by omega) (by have := h.lt; omega)
    have := Kd.R_lt hr g (by simp [Value.ownBlock])
    omega), Kd.H_widen h.h, Kd.R_mono h.r (fun k hk => Or.inl hk)⟩
theorem HoleO.below (h : HoleO w base g n cap xs i x v oki) (hb : Below w.heap.size w w1) : HoleO w1 base g n cap xs i x v oki := ⟨h.lt, h.ne, Kd.H_below h.h hb, Kd.R_below h.r hb⟩
theorem HoleO.put (h : HoleO w base g n cap xs i x v oki) (j : Nat) (u : Value) (hu : u.oneCell' = true) (hj : j < 8) (hc : (cells48 x v).take j ++ [u] ++ (cells48 x v).drop (j + 1) = cells48 x' v') (hr : (Kd.int .i64).R 3 w base oki v' x'.f7) :
    HoleO (w.setCell ⟨g, i * 8 + j, none⟩ u) base g n cap xs i x' v' oki ∧ w.grownBy (w.setCell ⟨g, i * 8 + j, none⟩ u) (some g) := by
  obtain ⟨h2, h3⟩ := Kd.H_seg h.h (by omega) (by have := h.lt; omega) (seg := [u]) (j := j) (show j + 1 ≤ 8 by omega) (fun q hq => by rw [List.mem_singleton] at hq; rw [hq]; exact hu)
  rw [Int.toNat_natCast] at h2 h3
  rw [show (cells48 x v).take j ++ [u] ++ (cells48 x v).drop (j + [u].length) = cells48 x' v' from hc] at h2
  exact ⟨⟨h.lt, h.ne, h2, Kd.R_far (p := ⟨g, i * 8 + j, none⟩) hr (fun k hk => h.ne k hk) u⟩, h3⟩
theorem HoleO.back (h : HoleO w base g n cap xs i x v oki) : Outs w base g n cap (xs.set i x) := by
  have := Kd.H_back h.h (k48_mkM w base oki x h.r) (fun _ hk => hk)
  rwa [Int.toNat_natCast] at this
theorem HoleO.gb (h : HoleO w base g n cap xs i x v oki) : base ≤ g := by
  obtain ⟨_, _, hr, _, _, _, _⟩ := Kd.H_raw h.h (by omega) (by have := h.lt; omega)
  exact Kd.R_base hr g (by simp [Value.ownBlock])
/-- The element's list has been appended to; then its field is written. -/
theorem HoleO.appended (h : HoleO w base g n cap xs i x v oki) (hg : w.grownBy w1 v.ownBlock) {ys : List Int} (hr : (Kd.int .i64).R 3 w1 base oki v' ys) :
    HoleO (w1.setCell ⟨g, i * 8 + 7, none⟩ v') base g n cap xs i { x with f7 := ys } v' oki ∧ w1.grownBy (w1.setCell ⟨g, i * 8 + 7, none⟩ v') (some g) := by
  have hH := Kd.H_grown h.h hg (fun k hk => h.r.1 k hk)
  obtain ⟨A, c, hv⟩ := Kd.R_slice hr
  obtain ⟨h2, h3⟩ := Kd.H_seg hH (by omega) (by have := h.lt; omega) (seg := [v']) (j := 7) (show 7 + 1 ≤ 8 by omega) (fun q hq => by rw [List.mem_singleton] at hq; rw [hq, hv]; rfl)
  rw [Int.toNat_natCast] at h2 h3
  exact ⟨⟨h.lt, h.ne, h2, Kd.R_far (p := ⟨g, i * 8 + 7, none⟩) hr (fun k hk => h.ne k hk) v'⟩, h3⟩
end
structure Put (w0 w : World) (g n cap : Nat) (xs : List S48) (i : Nat) (x : S48) (v : Value) (oki : Nat → Prop) : Prop where
  h : HoleO w w0.heap.size g n cap xs i x v oki
  b : Below w0.heap.size w0 w
section
variable {w0 w w1 : World} {g n cap i : Nat} {xs : List S48} {x : S48} {v v' : Value} {oki : Nat → Prop}
theorem Put.drew (h : Put w0 w g n cap xs i x v oki) : Put w0 w.drew g n cap xs i x v oki := ⟨h.h.below (below_drew (Below.refl _ _)), below_drew h.b⟩
theorem Put.drewN (h : Put w0 w g n cap xs i x v oki) (m : Nat) : Put w0 (w.drewN m) g n cap xs i x v oki := ⟨h.h.below (pw_below_drewN (Below.refl _ _) m), pw_below_drewN h.b m⟩
theorem Put.put (h : Put w0 w g n cap xs i x v oki) (j : Nat) (u : Value) (hu : u.oneCell' = true) (hj : j < 8) (x' : S48) (hc : (cells48 x v).take j ++ [u] ++ (cells48 x v).drop (j + 1) = cells48 x' v) (h7 : x'.f7 = x.f7) :
    Put w0 (w.setCell ⟨g, i * 8 + j, none⟩ u) g n cap xs i x' v oki := by
  obtain ⟨h1, h2⟩ := h.h.put j u hu hj hc (by rw [h7]; exact h.h.r)
  exact ⟨h1, pw_below_grown h.b (some g) h.b.size h2 (fun k hk => by injection hk with hk; subst hk; exact h.h.gb)⟩
theorem Put.widen (h : Put w0 w g n cap xs i x v oki) : Put w0 w g n cap xs i x v (fun k => oki k ∨ True ∧ w.heap.size ≤ k) := ⟨h.h.widen, h.b⟩
theorem Put.after (h : Put w0 w g n cap xs i x v oki) (hg : w.grownBy w1 v.ownBlock) : w1.cell? ⟨g, i * 8 + 7, none⟩ = some v ∧ w1.frozen? ⟨g, i * 8 + 7, none⟩ = false := by
  have hH := Kd.H_grown h.h.h hg (fun k hk => h.h.r.1 k hk)
  obtain ⟨rows, _, hr, _, _, hc, _⟩ := Kd.H_raw hH (by omega) (by have := h.h.lt; omega)
  obtain ⟨_, _, _, _, hf⟩ := Kd.R_elem hr [] (i : Int) (by omega) (by have := h.h.lt; omega)
  have h1 := hc 7 v rfl
  have h2 := hf 7
  rw [Int.toNat_natCast] at h1 h2
  exact ⟨h1, h2⟩
theorem Put.appended (h : Put w0 w g n cap xs i x v oki) (hg : w.grownBy w1 v.ownBlock) {ys : List Int} (hr : (Kd.int .i64).R 3 w1 w0.heap.size oki v' ys) :
    Put w0 (w1.setCell ⟨g, i * 8 + 7, none⟩ v') g n cap xs i { x with f7 := ys } v' oki := by
  obtain ⟨h1, h2⟩ := h.h.appended hg hr
  exact ⟨h1, pw_below_grown (pw_below_grown h.b v.ownBlock h.b.size hg (fun k hk => Kd.R_base h.h.r k hk)) (some g) (Nat.le_trans h.b.size hg.size) h2 (fun k hk => by injection hk with hk; subst hk; exact h.h.gb)⟩
end
end Go.Proofs.Ytmbhafgnmdfjhaa.QTab
namespace Go.Proofs.Ytmbhafgnmdfjhaa.QTab
open Go.RowKit Go.Proofs.YtmbhafgnmdfjhaaW.PrintWords Go.Proofs.YtmbhafgnmdfjhaaW.PrintLast Go.Proofs.YtmbhafgnmdfjhaaW.PrintMore Go.Proofs.YtmbhafgnmdfjhaaV
set_option linter.unusedVariables false
set_option linter.unusedSimpArgs false
def smallB (t : S27) : Bool := !(t.f10.any fun l => decide (100 < l.length)) && (decide (t.f1.length ≤ 1000) && decide (t.f2.length ≤ 1000) && decide (t.f9.length ≤ 1000) && decide (t.f3.length ≤ 1000) && decide (t.f6.length ≤ 1000) && decide (t.f7.length ≤ 1000) && decide (t.f8.length ≤ 1000) && decide (t.f10.length ≤ 1000))
set_option maxRecDepth 100000 in
set_option maxHeartbeats 2000000 in
theorem small_calls {w : World} (t : S27) (d : D27) (hr : R27 w t d) :
    Calls Try.prog 11 #[.agg (cells27 t d)] w fun e w' => e = .returned (.bool (smallB t)) ∧ Below w.heap.size w w' := by
  have HR := Aside0.mk hr
  clear hr
  have hu := Try.underlying27
  have hu86 := Try.underlying86
  unfold cells27
  go_enter Try.func11, Try.ntmps11
  obtain ⟨w1, hw1⟩ : ∃ wz, w.alloc (.cells (cells27 t d) 27) = wz := ⟨_, rfl⟩
  obtain ⟨g, hg⟩ : ∃ rz, w.heap.size = rz := ⟨_, rfl⟩
  have B1 : Aside0 (Below w.heap.size w w1) := ⟨by rw [← hw1]; exact below_alloc (Below.refl _ _) _⟩
  have K1 : Aside0 (Box27 w1 g t d) := ⟨by rw [← hw1, ← hg]; exact blk_new w _⟩
  have GE : Aside0 (w.heap.size ≤ g) := ⟨by omega⟩
  unfold cells27 at hw1
  obtain ⟨q0, q1, q2, q3, q4, q5, q6, q7, q8, q9, q10⟩ := K1.out.cells
  go_wp2_with fail
  clear hw1 hg
  clear q0 q1 q2 q3 q4 q5 q6 q7 q8 q9 q10
  go_loopg [3] (t.f10.length + 1) (fun kq v3 w' => ∃ (i : Nat), v3 = .int .i64 (i : Int) ∧ Aside0 (kq = t.f10.length - i + 1) ∧ Aside0 (i ≤ t.f10.length ∧ (t.f10.take i).any (fun l => decide (100 < l.length)) = false) ∧ Aside0 (w' = w1))
  case atStart => exact ⟨0, rfl, ⟨rfl⟩, ⟨⟨Nat.zero_le _, rfl⟩⟩, ⟨rfl⟩⟩
  case round =>
    obtain ⟨i, rfl, HQ, HI, HW⟩ := hrel
    obtain rfl := HW.out
    clear HW
    obtain ⟨q0, q1, q2, q3, q4, q5, q6, q7, q8, q9, q10⟩ := K1.out.cells
    by_cases hj : i < t.f10.length
    · have hj1 : decide ((i : Int) < (t.f10.length : Int)) = true := decide_eq_true (by omega)
      have hj2 : decide (i < t.f10.length) = true := decide_eq_true hj
      have hj3 : (i < t.f10.length) = True := eq_true hj
      have HHJ := Aside0.mk hj
      have e8 : wrap64 ((i : Int) + 1) = ((i + 1 : Nat) : Int) := by have := HR.out.r10.2.1; unfold wrap64; omega
      obtain ⟨ad2, Ar, cr, es, xs, hcr, hRr⟩ := at_L3 (HR.out.below B1.out).r10 (i : Int) (by omega) (by omega)
      rw [es] at q10
      rw [Int.toNat_natCast] at xs
      have HTK : Aside0 ((t.f10.take (i + 1)).any (fun l => decide (100 < l.length)) = decide (100 < (rd_L3 t.f10 i).length)) := ⟨by rw [List.take_add_one, List.any_append, HI.out.2]; simp [rd_L3, List.getD_eq_getElem?_getD, List.getElem?_eq_getElem hj]⟩
      have HAN : Aside0 (100 < (rd_L3 t.f10 i).length → t.f10.any (fun l => decide (100 < l.length)) = true) := ⟨fun h => List.any_eq_true.mpr ⟨t.f10[i], List.getElem_mem _, by rw [show t.f10[i] = rd_L3 t.f10 i from by simp [rd_L3, List.getD_eq_getElem?_getD, List.getElem?_eq_getElem hj]]; exact decide_eq_true h⟩⟩
      generalize rd_L3 t.f10 i = l at xs HTK HAN hcr hRr
      clear hj es hcr hRr
      by_cases h1 : 100 < l.length
      · have h1a : decide (100 < l.length) = true := decide_eq_true h1
        have h1b : decide ((100 : Int) < (l.length : Int)) = true := decide_eq_true (by omega)
        have HSZ := Aside0.mk (HAN.out h1)
        clear h1
        go_wp2_with fail
        go_ret
        exact ⟨by rw [smallB, HSZ.out]; rfl, B1.out⟩
      · have h1a : decide (100 < l.length) = false := decide_eq_false h1
        have h1b : decide ((100 : Int) < (l.length : Int)) = false := decide_eq_false (by omega)
        rw [h1a] at HTK
        clear h1
        go_wp2_with fail
        go_roundg (t.f10.length - (i + 1) + 1)
        case measure => have := HQ.out; have := HHJ.out; omega
        case rel => exact ⟨i + 1, by first | rfl | rw [e8], ⟨rfl⟩, ⟨⟨HHJ.out, HTK.out⟩⟩, ⟨rfl⟩⟩
    · have hj1 : decide ((i : Int) < (t.f10.length : Int)) = false := decide_eq_false (by omega)
      have hj2 : decide (i < t.f10.length) = false := decide_eq_false hj
      have hj3 : (i < t.f10.length) = False := eq_false hj
      have HSZ : Aside0 (t.f10.any (fun l => decide (100 < l.length)) = false) := ⟨by have h9 := HI.out.2; rwa [List.take_of_length_le (by omega)] at h9⟩
      clear hj
      have HD : Aside0 (smallB t = (decide (t.f1.length ≤ 1000) && decide (t.f2.length ≤ 1000) && decide (t.f9.length ≤ 1000) && decide (t.f3.length ≤ 1000) && decide (t.f6.length ≤ 1000) && decide (t.f7.length ≤ 1000) && decide (t.f8.length ≤ 1000) && decide (t.f10.length ≤ 1000))) := ⟨by rw [smallB, HSZ.out]; rfl⟩
      obtain ⟨g1, hg1⟩ : ∃ z, decide ((t.f1.length : Int) ≤ 1000) = z := ⟨_, rfl⟩
      have hh1 : decide (t.f1.length ≤ 1000) = g1 := by rw [← hg1]; exact decide_eq_decide.mpr (by omega)
      rw [hh1] at HD
      obtain ⟨g2, hg2⟩ : ∃ z, decide ((t.f2.length : Int) ≤ 1000) = z := ⟨_, rfl⟩
      have hh2 : decide (t.f2.length ≤ 1000) = g2 := by rw [← hg2]; exact decide_eq_decide.mpr (by omega)
      rw [hh2] at HD
      obtain ⟨g9, hg9⟩ : ∃ z, decide ((t.f9.length : Int) ≤ 1000) = z := ⟨_, rfl⟩
      have hh9 : decide (t.f9.length ≤ 1000) = g9 := by rw [← hg9]; exact decide_eq_decide.mpr (by omega)
      rw [hh9] at HD
      obtain ⟨g3, hg3⟩ : ∃ z, decide ((t.f3.length : Int) ≤ 1000) = z := ⟨_, rfl⟩
      have hh3 : decide (t.f3.length ≤ 1000) = g3 := by rw [← hg3]; exact decide_eq_decide.mpr (by omega)
      rw [hh3] at HD
      obtain ⟨g6, hg6⟩ : ∃ z, decide ((t.f6.length : Int) ≤ 1000) = z := ⟨_, rfl⟩
      have hh6 : decide (t.f6.length ≤ 1000) = g6 := by rw [← hg6]; exact decide_eq_decide.mpr (by omega)
      rw [hh6] at HD
      obtain ⟨g7, hg7⟩ : ∃ z, decide ((t.f7.length : Int) ≤ 1000) = z := ⟨_, rfl⟩
      have hh7 : decide (t.f7.length ≤ 1000) = g7 := by rw [← hg7]; exact decide_eq_decide.mpr (by omega)
      rw [hh7] at HD
      obtain ⟨g8, hg8⟩ : ∃ z, decide ((t.f8.length : Int) ≤ 1000) = z := ⟨_, rfl⟩
      have hh8 : decide (t.f8.length ≤ 1000) = g8 := by rw [← hg8]; exact decide_eq_decide.mpr (by omega)
      rw [hh8] at HD
      obtain ⟨g10, hg10⟩ : ∃ z, decide ((t.f10.length : Int) ≤ 1000) = z := ⟨_, rfl⟩
      have hh10 : decide (t.f10.length ≤ 1000) = g10 := by rw [← hg10]; exact decide_eq_decide.mpr (by omega)
      rw [hh10] at HD
      clear hh1 hh2 hh9 hh3 hh6 hh7 hh8 hh10
      cases g1 with
      | false =>
        go_wp2_with fail
        go_ret
        exact ⟨by rw [HD.out]; first | done | rfl | (simp; done), B1.out⟩
      | true =>
      cases g2 with
      | false =>
        go_wp2_with fail
        go_ret
        exact ⟨by rw [HD.out]; first | done | rfl | (simp; done), B1.out⟩
      | true =>
      cases g9 with
      | false =>
        go_wp2_with fail
        go_ret
        exact ⟨by rw [HD.out]; first | done | rfl | (simp; done), B1.out⟩
      | true =>
      cases g3 with
      | false =>
        go_wp2_with fail
        go_ret
        exact ⟨by rw [HD.out]; first | done | rfl | (simp; done), B1.out⟩
      | true =>
      cases g6 with
      | false =>
        go_wp2_with fail
        go_ret
        exact ⟨by rw [HD.out]; first | done | rfl | (simp; done), B1.out⟩
      | true =>
      cases g7 with
      | false =>
        go_wp2_with fail
        go_ret
        exact ⟨by rw [HD.out]; first | done | rfl | (simp; done), B1.out⟩
      | true =>
      cases g8 with
      | false =>
        go_wp2_with fail
        go_ret
        exact ⟨by rw [HD.out]; first | done | rfl | (simp; done), B1.out⟩
      | true =>
      cases g10 with
      | false =>
        go_wp2_with fail
        go_ret
        exact ⟨by rw [HD.out]; first | done | rfl | (simp; done), B1.out⟩
      | true =>
      go_wp2_with fail
      go_ret
      exact ⟨by rw [HD.out]; rfl, B1.out⟩
end Go.Proofs.Ytmbhafgnmdfjhaa.QTab
