/- A lemma file: tables as one value, and their rows. No condition. -/
import Derived.Test.YtmbhafgnmdfjhaaVRows
import Derived.Test.YtmbhafgnmdfjhaaQTabx3
import Derived.Test.YtmbhafgnmdfjhaaQTabx6
import Derived.Test.YtmbhafgnmdfjhaaQTabx5
import Derived.Deep.QuietTactic
import Derived.BigQuiet
namespace Go.Proofs.Ytmbhafgnmdfjhaa.QTab
open Go.RowKit Go.Proofs.YtmbhafgnmdfjhaaW.PrintWords Go.Proofs.YtmbhafgnmdfjhaaW.PrintLast Go.Proofs.YtmbhafgnmdfjhaaW.PrintMore Go.Proofs.YtmbhafgnmdfjhaaV
set_option linter.unusedVariables false
set_option linter.unusedSimpArgs false
/-- Where the lists of tables lie. -/
structure D27 where
  A1 : Option Addr
  c1 : Nat
  A2 : Option Addr
  c2 : Nat
  A3 : Option Addr
  c3 : Nat
  A6 : Option Addr
  c6 : Nat
  A7 : Option Addr
  c7 : Nat
  A8 : Option Addr
  c8 : Nat
  A9 : Option Addr
  c9 : Nat
  A10 : Option Addr
  c10 : Nat
def cells27 (t : S27) (d : D27) : Array Value := #[.int .i64 t.f0, .slice d.A1 t.f1.length d.c1, .slice d.A2 t.f2.length d.c2, .slice d.A3 t.f3.length d.c3, .bool t.f4, .int .i64 t.f5, .slice d.A6 t.f6.length d.c6, .slice d.A7 t.f7.length d.c7, .slice d.A8 t.f8.length d.c8, .slice d.A9 t.f9.length d.c9, .slice d.A10 t.f10.length d.c10]
structure R27 (w : World) (t : S27) (d : D27) : Prop where
  r1 : Kd.C k83 w d.A1 t.f1.length t.f1
  r2 : Kd.C k83 w d.A2 t.f2.length t.f2
  r3 : Kd.C (Kd.int .i64) w d.A3 t.f3.length t.f3
  r6 : Kd.C (Kd.int .i64) w d.A6 t.f6.length t.f6
  r7 : Kd.C k86 w d.A7 t.f7.length t.f7
  r8 : Kd.C (Kd.int .i64) w d.A8 t.f8.length t.f8
  r9 : Kd.C k83 w d.A9 t.f9.length t.f9
  r10 : Kd.C (Kd.slice 3 (Kd.int .i64)) w d.A10 t.f10.length t.f10
  c1 : t.f1.length ≤ d.c1
  c2 : t.f2.length ≤ d.c2
  c3 : t.f3.length ≤ d.c3
  c6 : t.f6.length ≤ d.c6
  c7 : t.f7.length ≤ d.c7
  c8 : t.f8.length ≤ d.c8
  c9 : t.f9.length ≤ d.c9
  c10 : t.f10.length ≤ d.c10
theorem R27.below {w w1 : World} {t : S27} {d : D27} (h : R27 w t d) (hb : Below w.heap.size w w1) : R27 w1 t d :=
  ⟨Kd.C_below h.r1 hb, Kd.C_below h.r2 hb, Kd.C_below h.r3 hb, Kd.C_below h.r6 hb, Kd.C_below h.r7 hb, Kd.C_below h.r8 hb, Kd.C_below h.r9 hb, Kd.C_below h.r10 hb, h.c1, h.c2, h.c3, h.c6, h.c7, h.c8, h.c9, h.c10⟩
/-- A variable that holds tables. -/
def Box27 (w : World) (g : Nat) (t : S27) (d : D27) : Prop := w.heap[g]? = some (.cells (cells27 t d) 27 (0, 0))
theorem Box27.cells {w : World} {g : Nat} {t : S27} {d : D27} (h : Box27 w g t d) : w.cell? ⟨g, 0, none⟩ = some (.int .i64 t.f0) ∧ w.cell? ⟨g, 1, none⟩ = some (.slice d.A1 t.f1.length d.c1) ∧ w.cell? ⟨g, 2, none⟩ = some (.slice d.A2 t.f2.length d.c2) ∧ w.cell? ⟨g, 3, none⟩ = some (.slice d.A3 t.f3.length d.c3) ∧ w.cell? ⟨g, 4, none⟩ = some (.bool t.f4) ∧ w.cell? ⟨g, 5, none⟩ = some (.int .i64 t.f5) ∧ w.cell? ⟨g, 6, none⟩ = some (.slice d.A6 t.f6.length d.c6) ∧ w.cell? ⟨g, 7, none⟩ = some (.slice d.A7 t.f7.length d.c7) ∧ w.cell? ⟨g, 8, none⟩ = some (.slice d.A8 t.f8.length d.c8) ∧ w.cell? ⟨g, 9, none⟩ = some (.slice d.A9 t.f9.length d.c9) ∧ w.cell? ⟨g, 10, none⟩ = some (.slice d.A10 t.f10.length d.c10) :=
  ⟨(blk_cell h 0).trans rfl, (blk_cell h 1).trans rfl, (blk_cell h 2).trans rfl, (blk_cell h 3).trans rfl, (blk_cell h 4).trans rfl, (blk_cell h 5).trans rfl, (blk_cell h 6).trans rfl, (blk_cell h 7).trans rfl, (blk_cell h 8).trans rfl, (blk_cell h 9).trans rfl, (blk_cell h 10).trans rfl⟩
theorem Box27.below {w w1 : World} {g : Nat} {t : S27} {d : D27} (h : Box27 w g t d) (hb : Below w.heap.size w w1) : Box27 w1 g t d := blk_below h hb
theorem Box27.grown {w w1 : World} {g : Nat} {t : S27} {d : D27} {row : Option Nat} (h : Box27 w g t d) (hg : w.grownBy w1 row) (hne : some g ≠ row) : Box27 w1 g t d := blk_grown h hg hne
theorem Box27.lt {w : World} {g : Nat} {t : S27} {d : D27} (h : Box27 w g t d) : g < w.heap.size := blk_lt h
structure St4 (w w' : World) (g : Nat) (t : S27) (d : D27) : Prop where
  b : Below w.heap.size w w'
  k : Box27 w' g t d
  r : R27 w' t d
theorem St4.step {w w1 w2 : World} {g : Nat} {t : S27} {d : D27} (h : St4 w w1 g t d) (hb : Below w1.heap.size w1 w2) : St4 w w2 g t d := ⟨below_step h.b hb, h.k.below hb, h.r.below hb⟩
def St4c (w w' : World) (g : Nat) (t : S27) (d : D27) : Prop := w'.cell? ⟨g, 0, none⟩ = some (.int .i64 t.f0) ∧ w'.cell? ⟨g, 1, none⟩ = some (.slice d.A1 t.f1.length d.c1) ∧ w'.cell? ⟨g, 2, none⟩ = some (.slice d.A2 t.f2.length d.c2) ∧ w'.cell? ⟨g, 3, none⟩ = some (.slice d.A3 t.f3.length d.c3) ∧ w'.cell? ⟨g, 4, none⟩ = some (.bool t.f4) ∧ w'.cell? ⟨g, 5, none⟩ = some (.int .i64 t.f5) ∧ w'.cell? ⟨g, 6, none⟩ = some (.slice d.A6 t.f6.length d.c6) ∧ w'.cell? ⟨g, 7, none⟩ = some (.slice d.A7 t.f7.length d.c7) ∧ w'.cell? ⟨g, 8, none⟩ = some (.slice d.A8 t.f8.length d.c8) ∧ w'.cell? ⟨g, 9, none⟩ = some (.slice d.A9 t.f9.length d.c9) ∧ w'.cell? ⟨g, 10, none⟩ = some (.slice d.A10 t.f10.length d.c10) ∧ St4 w w' g t d
theorem St4.all {w w' : World} {g : Nat} {t : S27} {d : D27} (h : St4 w w' g t d) : St4c w w' g t d := by
  obtain ⟨q0, q1, q2, q3, q4, q5, q6, q7, q8, q9, q10⟩ := h.k.cells
  exact ⟨q0, q1, q2, q3, q4, q5, q6, q7, q8, q9, q10, h⟩
end Go.Proofs.Ytmbhafgnmdfjhaa.QTab
