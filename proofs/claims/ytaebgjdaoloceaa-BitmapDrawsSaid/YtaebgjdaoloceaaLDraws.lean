/- A lemma file: the law BitmapDraws, walked. Printed by lw_draws.py of this session. No condition. -/
import Derived.Test.YtaebgjdaoloceaaQBmpDx4
import Derived.Test.YtaebgjdaoloceaaQBmpDx6
import Derived.Test.YtaebgjdaoloceaaQBmpDx2
import Derived.Test.YtaebgjdaoloceaaQBmpDx3
import Derived.Test.YtaebgjdaoloceaaQBmpDx2
import Derived.Test.YtaebgjdaoloceaaQBmpDx2
import Derived.Test.YtaebgjdaoloceaaQBmpDx2
import Derived.Test.YtaebgjdaoloceaaQBmpDx7
import Derived.Test.YtaebgjdaoloceaaQBmpDx7
import Derived.Test.YtaebgjdaoloceaaQBmpDx7
import Derived.Deep.RegionHeld3
namespace Go.Proofs.Ytaebgjdaoloceaa.QBmpD
open Go.RowKit Go.Proofs.YtaebgjdaoloceaaW.PrintWords Go.Proofs.YtaebgjdaoloceaaW.PrintLast Go.Proofs.YtaebgjdaoloceaaW.PrintMore Go.Proofs.YtaebgjdaoloceaaV
set_option linter.unusedVariables false
set_option linter.unusedSimpArgs false
theorem eqi_below (k : Nat) (A0 : Option Addr) (c0 : Nat) (l0 : List Int) (A1 : Option Addr) (c1 : Nat) (l1 : List Int) (r : Bool) (w : World) (hr0 : Kd.C (Kd.int .i64) w A0 l0.length l0) (hc0 : l0.length ≤ c0) (hr1 : Kd.C (Kd.int .i64) w A1 l1.length l1) (hc1 : l1.length ≤ c1) (h : dioramaref00_EqInts.f k l0 l1 = some r) :
    Calls Try.prog 15 #[.slice A0 l0.length c0, .slice A1 l1.length c1] w fun e w' => e = .returned (.bool r) ∧ Below w.heap.size w w' := by
  refine (dioramaref00_EqInts.calls k A0 c0 l0 A1 c1 l1 r w hr0 hc0 hr1 hc1 h).mono ?_
  rintro e w' ⟨rfl, ⟨n, rfl⟩⟩
  exact ⟨rfl, pw_below_drewN (Below.refl _ _) n⟩
/-- The variables, and their rows. -/
structure Sit12 (w0 w' : World) (g1 : Nat) (p : Int) (q : Int) (A0 : Option Addr) (l0 : List Int) (c0 : Nat) (A1 : Option Addr) (l1 : List Int) (c1 : Nat) (g2 : Nat) (cl : Bool) (A2 : Option Addr) (l2 : List Int) (c2 : Nat) (A3 : Option Addr) (l3 : List S91) (c3 : Nat) (g3 : Nat) (Aa : Option Addr) (ca : Nat) (Ab : Option Addr) (cb : Nat) (g4 : Nat) (x1 : Int) (x2 : Int) (Ac : Option Addr) (x3 : List Int) (cc : Nat) (Ad : Option Addr) (x4 : List Int) (cd : Nat) (g5 : Nat) (Ae : Option Addr) (ce : Nat) (Af : Option Addr) (cf : Nat) : Prop where
  b : Below w0.heap.size w0 w'
  k0 : w'.heap[g1]? = some (.cells #[.int .i64 p, .int .i64 q, .slice A0 l0.length c0, .slice A1 l1.length c1] 41 (0, 0))
  k1 : w'.heap[g2]? = some (.cells #[.bool cl, .slice A2 l2.length c2, .slice A3 l3.length c3] 51 (0, 0))
  k2 : w'.heap[g3]? = some (.cells #[.int .i64 p, .int .i64 q, .slice Aa l0.length ca, .slice Ab l1.length cb] 38 (0, 0))
  k3 : w'.heap[g4]? = some (.cells #[.int .i64 x1, .int .i64 x2, .slice Ac x3.length cc, .slice Ad x4.length cd] 38 (0, 0))
  k4 : w'.heap[g5]? = some (.cells #[.int .i64 x1, .int .i64 x2, .slice Ae x3.length ce, .slice Af x4.length cf] 41 (0, 0))
  r0 : Kd.C (Kd.int .i64) w' Aa l0.length l0
  r1 : Kd.C (Kd.int .i64) w' Ab l1.length l1
  r2 : Kd.C (Kd.int .i64) w' Ac x3.length x3
  r3 : Kd.C (Kd.int .i64) w' Ad x4.length x4
  r4 : Kd.C (Kd.int .i64) w' Ae x3.length x3
  r5 : Kd.C (Kd.int .i64) w' Af x4.length x4
theorem Sit12.step {w0 w' w2 : World} {g1 : Nat} {p : Int} {q : Int} {A0 : Option Addr} {l0 : List Int} {c0 : Nat} {A1 : Option Addr} {l1 : List Int} {c1 : Nat} {g2 : Nat} {cl : Bool} {A2 : Option Addr} {l2 : List Int} {c2 : Nat} {A3 : Option Addr} {l3 : List S91} {c3 : Nat} {g3 : Nat} {Aa : Option Addr} {ca : Nat} {Ab : Option Addr} {cb : Nat} {g4 : Nat} {x1 : Int} {x2 : Int} {Ac : Option Addr} {x3 : List Int} {cc : Nat} {Ad : Option Addr} {x4 : List Int} {cd : Nat} {g5 : Nat} {Ae : Option Addr} {ce : Nat} {Af : Option Addr} {cf : Nat} (h : Sit12 w0 w' g1 p q A0 l0 c0 A1 l1 c1 g2 cl A2 l2 c2 A3 l3 c3 g3 Aa ca Ab cb g4 x1 x2 Ac x3 cc Ad x4 cd g5 Ae ce Af cf) (hb : Below w'.heap.size w' w2) : Sit12 w0 w2 g1 p q A0 l0 c0 A1 l1 c1 g2 cl A2 l2 c2 A3 l3 c3 g3 Aa ca Ab cb g4 x1 x2 Ac x3 cc Ad x4 cd g5 Ae ce Af cf :=
  ⟨below_step h.b hb, blk_below h.k0 hb, blk_below h.k1 hb, blk_below h.k2 hb, blk_below h.k3 hb, blk_below h.k4 hb, Kd.C_below h.r0 hb, Kd.C_below h.r1 hb, Kd.C_below h.r2 hb, Kd.C_below h.r3 hb, Kd.C_below h.r4 hb, Kd.C_below h.r5 hb⟩
theorem Sit12.drewN {w0 w' : World} {g1 : Nat} {p : Int} {q : Int} {A0 : Option Addr} {l0 : List Int} {c0 : Nat} {A1 : Option Addr} {l1 : List Int} {c1 : Nat} {g2 : Nat} {cl : Bool} {A2 : Option Addr} {l2 : List Int} {c2 : Nat} {A3 : Option Addr} {l3 : List S91} {c3 : Nat} {g3 : Nat} {Aa : Option Addr} {ca : Nat} {Ab : Option Addr} {cb : Nat} {g4 : Nat} {x1 : Int} {x2 : Int} {Ac : Option Addr} {x3 : List Int} {cc : Nat} {Ad : Option Addr} {x4 : List Int} {cd : Nat} {g5 : Nat} {Ae : Option Addr} {ce : Nat} {Af : Option Addr} {cf : Nat} (h : Sit12 w0 w' g1 p q A0 l0 c0 A1 l1 c1 g2 cl A2 l2 c2 A3 l3 c3 g3 Aa ca Ab cb g4 x1 x2 Ac x3 cc Ad x4 cd g5 Ae ce Af cf) (n : Nat) : Sit12 w0 (w'.drewN n) g1 p q A0 l0 c0 A1 l1 c1 g2 cl A2 l2 c2 A3 l3 c3 g3 Aa ca Ab cb g4 x1 x2 Ac x3 cc Ad x4 cd g5 Ae ce Af cf := h.step (pw_below_drewN (Below.refl _ _) n)
theorem Sit12.all {w0 w' : World} {g1 : Nat} {p : Int} {q : Int} {A0 : Option Addr} {l0 : List Int} {c0 : Nat} {A1 : Option Addr} {l1 : List Int} {c1 : Nat} {g2 : Nat} {cl : Bool} {A2 : Option Addr} {l2 : List Int} {c2 : Nat} {A3 : Option Addr} {l3 : List S91} {c3 : Nat} {g3 : Nat} {Aa : Option Addr} {ca : Nat} {Ab : Option Addr} {cb : Nat} {g4 : Nat} {x1 : Int} {x2 : Int} {Ac : Option Addr} {x3 : List Int} {cc : Nat} {Ad : Option Addr} {x4 : List Int} {cd : Nat} {g5 : Nat} {Ae : Option Addr} {ce : Nat} {Af : Option Addr} {cf : Nat} (h : Sit12 w0 w' g1 p q A0 l0 c0 A1 l1 c1 g2 cl A2 l2 c2 A3 l3 c3 g3 Aa ca Ab cb g4 x1 x2 Ac x3 cc Ad x4 cd g5 Ae ce Af cf) : w'.cell? ⟨g1, 0, none⟩ = some (.int .i64 p) ∧ w'.cell? ⟨g1, 1, none⟩ = some (.int .i64 q) ∧ w'.cell? ⟨g1, 2, none⟩ = some (.slice A0 l0.length c0) ∧ w'.cell? ⟨g1, 3, none⟩ = some (.slice A1 l1.length c1) ∧ w'.cell? ⟨g2, 0, none⟩ = some (.bool cl) ∧ w'.cell? ⟨g2, 1, none⟩ = some (.slice A2 l2.length c2) ∧ w'.cell? ⟨g2, 2, none⟩ = some (.slice A3 l3.length c3) ∧ w'.cell? ⟨g3, 0, none⟩ = some (.int .i64 p) ∧ w'.cell? ⟨g3, 1, none⟩ = some (.int .i64 q) ∧ w'.cell? ⟨g3, 2, none⟩ = some (.slice Aa l0.length ca) ∧ w'.cell? ⟨g3, 3, none⟩ = some (.slice Ab l1.length cb) ∧ w'.cell? ⟨g4, 0, none⟩ = some (.int .i64 x1) ∧ w'.cell? ⟨g4, 1, none⟩ = some (.int .i64 x2) ∧ w'.cell? ⟨g4, 2, none⟩ = some (.slice Ac x3.length cc) ∧ w'.cell? ⟨g4, 3, none⟩ = some (.slice Ad x4.length cd) ∧ w'.cell? ⟨g5, 0, none⟩ = some (.int .i64 x1) ∧ w'.cell? ⟨g5, 1, none⟩ = some (.int .i64 x2) ∧ w'.cell? ⟨g5, 2, none⟩ = some (.slice Ae x3.length ce) ∧ w'.cell? ⟨g5, 3, none⟩ = some (.slice Af x4.length cf) ∧ Sit12 w0 w' g1 p q A0 l0 c0 A1 l1 c1 g2 cl A2 l2 c2 A3 l3 c3 g3 Aa ca Ab cb g4 x1 x2 Ac x3 cc Ad x4 cd g5 Ae ce Af cf :=
  ⟨(blk_cell h.k0 0).trans rfl, (blk_cell h.k0 1).trans rfl, (blk_cell h.k0 2).trans rfl, (blk_cell h.k0 3).trans rfl, (blk_cell h.k1 0).trans rfl, (blk_cell h.k1 1).trans rfl, (blk_cell h.k1 2).trans rfl, (blk_cell h.k2 0).trans rfl, (blk_cell h.k2 1).trans rfl, (blk_cell h.k2 2).trans rfl, (blk_cell h.k2 3).trans rfl, (blk_cell h.k3 0).trans rfl, (blk_cell h.k3 1).trans rfl, (blk_cell h.k3 2).trans rfl, (blk_cell h.k3 3).trans rfl, (blk_cell h.k4 0).trans rfl, (blk_cell h.k4 1).trans rfl, (blk_cell h.k4 2).trans rfl, (blk_cell h.k4 3).trans rfl, h⟩
/-- The variables, and their rows. -/
structure Sit14 (w0 w' : World) (g1 : Nat) (p : Int) (q : Int) (A0 : Option Addr) (l0 : List Int) (c0 : Nat) (A1 : Option Addr) (l1 : List Int) (c1 : Nat) (g2 : Nat) (cl : Bool) (A2 : Option Addr) (l2 : List Int) (c2 : Nat) (A3 : Option Addr) (l3 : List S91) (c3 : Nat) (g3 : Nat) (Aa : Option Addr) (ca : Nat) (Ab : Option Addr) (cb : Nat) (g4 : Nat) (x1 : Int) (x2 : Int) (Ac : Option Addr) (x3 : List Int) (cc : Nat) (Ad : Option Addr) (x4 : List Int) (cd : Nat) (g5 : Nat) (Ae : Option Addr) (ce : Nat) (Af : Option Addr) (cf : Nat) (Ag : Option Addr) (y1 : List Int) (Ah : Option Addr) : Prop where
  b : Below w0.heap.size w0 w'
  k0 : w'.heap[g1]? = some (.cells #[.int .i64 p, .int .i64 q, .slice A0 l0.length c0, .slice A1 l1.length c1] 41 (0, 0))
  k1 : w'.heap[g2]? = some (.cells #[.bool cl, .slice A2 l2.length c2, .slice A3 l3.length c3] 51 (0, 0))
  k2 : w'.heap[g3]? = some (.cells #[.int .i64 p, .int .i64 q, .slice Aa l0.length ca, .slice Ab l1.length cb] 38 (0, 0))
  k3 : w'.heap[g4]? = some (.cells #[.int .i64 x1, .int .i64 x2, .slice Ac x3.length cc, .slice Ad x4.length cd] 38 (0, 0))
  k4 : w'.heap[g5]? = some (.cells #[.int .i64 x1, .int .i64 x2, .slice Ae x3.length ce, .slice Af x4.length cf] 41 (0, 0))
  r0 : Kd.C (Kd.int .i64) w' Aa l0.length l0
  r1 : Kd.C (Kd.int .i64) w' Ab l1.length l1
  r2 : Kd.C (Kd.int .i64) w' Ac x3.length x3
  r3 : Kd.C (Kd.int .i64) w' Ad x4.length x4
  r4 : Kd.C (Kd.int .i64) w' Ae x3.length x3
  r5 : Kd.C (Kd.int .i64) w' Af x4.length x4
  r6 : Kd.C (Kd.int .i64) w' Ag y1.length y1
  r7 : Kd.C (Kd.int .i64) w' Ah y1.length y1
theorem Sit14.step {w0 w' w2 : World} {g1 : Nat} {p : Int} {q : Int} {A0 : Option Addr} {l0 : List Int} {c0 : Nat} {A1 : Option Addr} {l1 : List Int} {c1 : Nat} {g2 : Nat} {cl : Bool} {A2 : Option Addr} {l2 : List Int} {c2 : Nat} {A3 : Option Addr} {l3 : List S91} {c3 : Nat} {g3 : Nat} {Aa : Option Addr} {ca : Nat} {Ab : Option Addr} {cb : Nat} {g4 : Nat} {x1 : Int} {x2 : Int} {Ac : Option Addr} {x3 : List Int} {cc : Nat} {Ad : Option Addr} {x4 : List Int} {cd : Nat} {g5 : Nat} {Ae : Option Addr} {ce : Nat} {Af : Option Addr} {cf : Nat} {Ag : Option Addr} {y1 : List Int} {Ah : Option Addr} (h : Sit14 w0 w' g1 p q A0 l0 c0 A1 l1 c1 g2 cl A2 l2 c2 A3 l3 c3 g3 Aa ca Ab cb g4 x1 x2 Ac x3 cc Ad x4 cd g5 Ae ce Af cf Ag y1 Ah) (hb : Below w'.heap.size w' w2) : Sit14 w0 w2 g1 p q A0 l0 c0 A1 l1 c1 g2 cl A2 l2 c2 A3 l3 c3 g3 Aa ca Ab cb g4 x1 x2 Ac x3 cc Ad x4 cd g5 Ae ce Af cf Ag y1 Ah :=
  ⟨below_step h.b hb, blk_below h.k0 hb, blk_below h.k1 hb, blk_below h.k2 hb, blk_below h.k3 hb, blk_below h.k4 hb, Kd.C_below h.r0 hb, Kd.C_below h.r1 hb, Kd.C_below h.r2 hb, Kd.C_below h.r3 hb, Kd.C_below h.r4 hb, Kd.C_below h.r5 hb, Kd.C_below h.r6 hb, Kd.C_below h.r7 hb⟩
theorem Sit14.drewN {w0 w' : World} {g1 : Nat} {p : Int} {q : Int} {A0 : Option Addr} {l0 : List Int} {c0 : Nat} {A1 : Option Addr} {l1 : List Int} {c1 : Nat} {g2 : Nat} {cl : Bool} {A2 : Option Addr} {l2 : List Int} {c2 : Nat} {A3 : Option Addr} {l3 : List S91} {c3 : Nat} {g3 : Nat} {Aa : Option Addr} {ca : Nat} {Ab : Option Addr} {cb : Nat} {g4 : Nat} {x1 : Int} {x2 : Int} {Ac : Option Addr} {x3 : List Int} {cc : Nat} {Ad : Option Addr} {x4 : List Int} {cd : Nat} {g5 : Nat} {Ae : Option Addr} {ce : Nat} {Af : Option Addr} {cf : Nat} {Ag : Option Addr} {y1 : List Int} {Ah : Option Addr} (h : Sit14 w0 w' g1 p q A0 l0 c0 A1 l1 c1 g2 cl A2 l2 c2 A3 l3 c3 g3 Aa ca Ab cb g4 x1 x2 Ac x3 cc Ad x4 cd g5 Ae ce Af cf Ag y1 Ah) (n : Nat) : Sit14 w0 (w'.drewN n) g1 p q A0 l0 c0 A1 l1 c1 g2 cl A2 l2 c2 A3 l3 c3 g3 Aa ca Ab cb g4 x1 x2 Ac x3 cc Ad x4 cd g5 Ae ce Af cf Ag y1 Ah := h.step (pw_below_drewN (Below.refl _ _) n)
theorem Sit14.all {w0 w' : World} {g1 : Nat} {p : Int} {q : Int} {A0 : Option Addr} {l0 : List Int} {c0 : Nat} {A1 : Option Addr} {l1 : List Int} {c1 : Nat} {g2 : Nat} {cl : Bool} {A2 : Option Addr} {l2 : List Int} {c2 : Nat} {A3 : Option Addr} {l3 : List S91} {c3 : Nat} {g3 : Nat} {Aa : Option Addr} {ca : Nat} {Ab : Option Addr} {cb : Nat} {g4 : Nat} {x1 : Int} {x2 : Int} {Ac : Option Addr} {x3 : List Int} {cc : Nat} {Ad : Option Addr} {x4 : List Int} {cd : Nat} {g5 : Nat} {Ae : Option Addr} {ce : Nat} {Af : Option Addr} {cf : Nat} {Ag : Option Addr} {y1 : List Int} {Ah : Option Addr} (h : Sit14 w0 w' g1 p q A0 l0 c0 A1 l1 c1 g2 cl A2 l2 c2 A3 l3 c3 g3 Aa ca Ab cb g4 x1 x2 Ac x3 cc Ad x4 cd g5 Ae ce Af cf Ag y1 Ah) : w'.cell? ⟨g1, 0, none⟩ = some (.int .i64 p) ∧ w'.cell? ⟨g1, 1, none⟩ = some (.int .i64 q) ∧ w'.cell? ⟨g1, 2, none⟩ = some (.slice A0 l0.length c0) ∧ w'.cell? ⟨g1, 3, none⟩ = some (.slice A1 l1.length c1) ∧ w'.cell? ⟨g2, 0, none⟩ = some (.bool cl) ∧ w'.cell? ⟨g2, 1, none⟩ = some (.slice A2 l2.length c2) ∧ w'.cell? ⟨g2, 2, none⟩ = some (.slice A3 l3.length c3) ∧ w'.cell? ⟨g3, 0, none⟩ = some (.int .i64 p) ∧ w'.cell? ⟨g3, 1, none⟩ = some (.int .i64 q) ∧ w'.cell? ⟨g3, 2, none⟩ = some (.slice Aa l0.length ca) ∧ w'.cell? ⟨g3, 3, none⟩ = some (.slice Ab l1.length cb) ∧ w'.cell? ⟨g4, 0, none⟩ = some (.int .i64 x1) ∧ w'.cell? ⟨g4, 1, none⟩ = some (.int .i64 x2) ∧ w'.cell? ⟨g4, 2, none⟩ = some (.slice Ac x3.length cc) ∧ w'.cell? ⟨g4, 3, none⟩ = some (.slice Ad x4.length cd) ∧ w'.cell? ⟨g5, 0, none⟩ = some (.int .i64 x1) ∧ w'.cell? ⟨g5, 1, none⟩ = some (.int .i64 x2) ∧ w'.cell? ⟨g5, 2, none⟩ = some (.slice Ae x3.length ce) ∧ w'.cell? ⟨g5, 3, none⟩ = some (.slice Af x4.length cf) ∧ Sit14 w0 w' g1 p q A0 l0 c0 A1 l1 c1 g2 cl A2 l2 c2 A3 l3 c3 g3 Aa ca Ab cb g4 x1 x2 Ac x3 cc Ad x4 cd g5 Ae ce Af cf Ag y1 Ah :=
  ⟨(blk_cell h.k0 0).trans rfl, (blk_cell h.k0 1).trans rfl, (blk_cell h.k0 2).trans rfl, (blk_cell h.k0 3).trans rfl, (blk_cell h.k1 0).trans rfl, (blk_cell h.k1 1).trans rfl, (blk_cell h.k1 2).trans rfl, (blk_cell h.k2 0).trans rfl, (blk_cell h.k2 1).trans rfl, (blk_cell h.k2 2).trans rfl, (blk_cell h.k2 3).trans rfl, (blk_cell h.k3 0).trans rfl, (blk_cell h.k3 1).trans rfl, (blk_cell h.k3 2).trans rfl, (blk_cell h.k3 3).trans rfl, (blk_cell h.k4 0).trans rfl, (blk_cell h.k4 1).trans rfl, (blk_cell h.k4 2).trans rfl, (blk_cell h.k4 3).trans rfl, h⟩
set_option maxRecDepth 100000 in
set_option maxHeartbeats 2000000 in
theorem draws_a {w : World} (k : Nat) (p q : Int) (A0 : Option Addr) (c0 : Nat) (l0 : List Int) (A1 : Option Addr) (c1 : Nat) (l1 : List Int) (cl : Bool) (A2 : Option Addr) (c2 : Nat) (l2 : List Int) (A3 : Option Addr) (c3 : Nat) (l3 : List S91)
    (hr0 : Kd.C (Kd.int .i64) w A0 l0.length l0) (hc0 : l0.length ≤ c0) (hr1 : Kd.C (Kd.int .i64) w A1 l1.length l1) (hc1 : l1.length ≤ c1) (hr2 : Kd.C (Kd.int .i64) w A2 l2.length l2) (hc2 : l2.length ≤ c2) (hr3 : Kd.C k91 w A3 l3.length l3) (hc3 : l3.length ≤ c3) (h : 41000 < l1.length) :
    Calls Try.prog 7 #[.agg #[.int .i64 p, .int .i64 q, .slice A0 l0.length c0, .slice A1 l1.length c1], .agg #[.bool cl, .slice A2 l2.length c2, .slice A3 l3.length c3]] w fun e w' => e = .returned (.bool true) ∧ Below w.heap.size w w' := by
  have hutbitmapCanvas := Try.underlying38
  have hutdioramaref19Canvas := Try.underlying41
  have hutapiPage := Try.underlying51
  have HR0 := Aside0.mk hr0
  have HC0 := Aside0.mk hc0
  have HR1 := Aside0.mk hr1
  have HC1 := Aside0.mk hc1
  have HR2 := Aside0.mk hr2
  have HC2 := Aside0.mk hc2
  have HR3 := Aside0.mk hr3
  have HC3 := Aside0.mk hc3
  clear hr0 hc0 hr1 hc1 hr2 hc2 hr3 hc3
  have hdl1 := (show decide (41000 < (l1.length : Int)) = true from decide_eq_true (by omega))
  have hel1 := (show decide (41000 < l1.length) = true from decide_eq_true (by omega))
  clear h
  go_enter Try.func7, Try.ntmps7
  go_wp2_with (first | ((with_reducible refine gate_dst (N := 2) rfl ?_); refine box_event ?hg (N := 2) ?hd (cs := #[.int .i64 p, .int .i64 q, .slice A0 l0.length c0, .slice A1 l1.length c1]) (t := 41) ?hr ?_; (case hd => rfl); (case hg => rfl); (case hr => first | (go_simp; done) | (go_simp; rfl)); intro g1 hg wa hbox hb; have n0_ := Aside0.mk (below_step (Below.refl _ _) hb); have n1_ := Aside0.mk hbox;  clear hb hbox hg; have BB := n0_; have G_g1 := n1_; clear n0_ n1_) | ((with_reducible refine gate_dst (N := 3) rfl ?_); refine box_event ?hg (N := 3) ?hd (cs := #[.bool cl, .slice A2 l2.length c2, .slice A3 l3.length c3]) (t := 51) ?hr ?_; (case hd => rfl); (case hg => rfl); (case hr => first | (go_simp; done) | (go_simp; rfl)); intro g2 hg wb hbox hb; have n0_ := Aside0.mk (below_step BB.out hb); have n1_ := Aside0.mk hbox; have n2_ := Aside0.mk (blk_below G_g1.out hb); clear hb hbox hg BB G_g1; have BB := n0_; have G_g2 := n1_; clear n0_ n1_; have G_g1 := n2_; clear n2_; obtain ⟨hg1_0, hg1_1, hg1_2, hg1_3, fg1_0, fg1_1, fg1_2, fg1_3⟩ := bcells4 G_g1.out; obtain ⟨hg2_0, hg2_1, hg2_2, fg2_0, fg2_1, fg2_2⟩ := bcells3 G_g2.out))
  go_ret
  exact ⟨rfl, BB.out⟩
set_option maxRecDepth 100000 in
set_option maxHeartbeats 2000000 in
theorem draws_b {w : World} (k : Nat) (p q : Int) (A0 : Option Addr) (c0 : Nat) (l0 : List Int) (A1 : Option Addr) (c1 : Nat) (l1 : List Int) (cl : Bool) (A2 : Option Addr) (c2 : Nat) (l2 : List Int) (A3 : Option Addr) (c3 : Nat) (l3 : List S91)
    (hr0 : Kd.C (Kd.int .i64) w A0 l0.length l0) (hc0 : l0.length ≤ c0) (hr1 : Kd.C (Kd.int .i64) w A1 l1.length l1) (hc1 : l1.length ≤ c1) (hr2 : Kd.C (Kd.int .i64) w A2 l2.length l2) (hc2 : l2.length ≤ c2) (hr3 : Kd.C k91 w A3 l3.length l3) (hc3 : l3.length ≤ c3) (h : ¬ 41000 < l1.length) (h2 : 100 < l0.length) :
    Calls Try.prog 7 #[.agg #[.int .i64 p, .int .i64 q, .slice A0 l0.length c0, .slice A1 l1.length c1], .agg #[.bool cl, .slice A2 l2.length c2, .slice A3 l3.length c3]] w fun e w' => e = .returned (.bool true) ∧ Below w.heap.size w w' := by
  have hutbitmapCanvas := Try.underlying38
  have hutdioramaref19Canvas := Try.underlying41
  have hutapiPage := Try.underlying51
  have HR0 := Aside0.mk hr0
  have HC0 := Aside0.mk hc0
  have HR1 := Aside0.mk hr1
  have HC1 := Aside0.mk hc1
  have HR2 := Aside0.mk hr2
  have HC2 := Aside0.mk hc2
  have HR3 := Aside0.mk hr3
  have HC3 := Aside0.mk hc3
  clear hr0 hc0 hr1 hc1 hr2 hc2 hr3 hc3
  have hdl1 := (show decide (41000 < (l1.length : Int)) = false from decide_eq_false (by omega))
  have hel1 := (show decide (41000 < l1.length) = false from decide_eq_false (by omega))
  have hdl0 := (show decide (100 < (l0.length : Int)) = true from decide_eq_true (by omega))
  have hel0 := (show decide (100 < l0.length) = true from decide_eq_true (by omega))
  clear h h2
  go_enter Try.func7, Try.ntmps7
  go_wp2_with (first | ((with_reducible refine gate_dst (N := 2) rfl ?_); refine box_event ?hg (N := 2) ?hd (cs := #[.int .i64 p, .int .i64 q, .slice A0 l0.length c0, .slice A1 l1.length c1]) (t := 41) ?hr ?_; (case hd => rfl); (case hg => rfl); (case hr => first | (go_simp; done) | (go_simp; rfl)); intro g1 hg wa hbox hb; have n0_ := Aside0.mk (below_step (Below.refl _ _) hb); have n1_ := Aside0.mk hbox;  clear hb hbox hg; have BB := n0_; have G_g1 := n1_; clear n0_ n1_) | ((with_reducible refine gate_dst (N := 3) rfl ?_); refine box_event ?hg (N := 3) ?hd (cs := #[.bool cl, .slice A2 l2.length c2, .slice A3 l3.length c3]) (t := 51) ?hr ?_; (case hd => rfl); (case hg => rfl); (case hr => first | (go_simp; done) | (go_simp; rfl)); intro g2 hg wb hbox hb; have n0_ := Aside0.mk (below_step BB.out hb); have n1_ := Aside0.mk hbox; have n2_ := Aside0.mk (blk_below G_g1.out hb); clear hb hbox hg BB G_g1; have BB := n0_; have G_g2 := n1_; clear n0_ n1_; have G_g1 := n2_; clear n2_; obtain ⟨hg1_0, hg1_1, hg1_2, hg1_3, fg1_0, fg1_1, fg1_2, fg1_3⟩ := bcells4 G_g1.out; obtain ⟨hg2_0, hg2_1, hg2_2, fg2_0, fg2_1, fg2_2⟩ := bcells3 G_g2.out))
  go_ret
  exact ⟨rfl, BB.out⟩
set_option maxRecDepth 100000 in
set_option maxHeartbeats 2000000 in
theorem draws_c {w : World} (k : Nat) (p q : Int) (A0 : Option Addr) (c0 : Nat) (l0 : List Int) (A1 : Option Addr) (c1 : Nat) (l1 : List Int) (cl : Bool) (A2 : Option Addr) (c2 : Nat) (l2 : List Int) (A3 : Option Addr) (c3 : Nat) (l3 : List S91)
    (hr0 : Kd.C (Kd.int .i64) w A0 l0.length l0) (hc0 : l0.length ≤ c0) (hr1 : Kd.C (Kd.int .i64) w A1 l1.length l1) (hc1 : l1.length ≤ c1) (hr2 : Kd.C (Kd.int .i64) w A2 l2.length l2) (hc2 : l2.length ≤ c2) (hr3 : Kd.C k91 w A3 l3.length l3) (hc3 : l3.length ≤ c3) (h : ¬ 41000 < l1.length) (h2 : ¬ 100 < l0.length) (hs : dioramalaw19_small.f k cl l2 l3 = some false) :
    Calls Try.prog 7 #[.agg #[.int .i64 p, .int .i64 q, .slice A0 l0.length c0, .slice A1 l1.length c1], .agg #[.bool cl, .slice A2 l2.length c2, .slice A3 l3.length c3]] w fun e w' => e = .returned (.bool true) ∧ Below w.heap.size w w' := by
  have hutbitmapCanvas := Try.underlying38
  have hutdioramaref19Canvas := Try.underlying41
  have hutapiPage := Try.underlying51
  have HR0 := Aside0.mk hr0
  have HC0 := Aside0.mk hc0
  have HR1 := Aside0.mk hr1
  have HC1 := Aside0.mk hc1
  have HR2 := Aside0.mk hr2
  have HC2 := Aside0.mk hc2
  have HR3 := Aside0.mk hr3
  have HC3 := Aside0.mk hc3
  clear hr0 hc0 hr1 hc1 hr2 hc2 hr3 hc3
  have hdl1 := (show decide (41000 < (l1.length : Int)) = false from decide_eq_false (by omega))
  have hel1 := (show decide (41000 < l1.length) = false from decide_eq_false (by omega))
  have hdl0 := (show decide (100 < (l0.length : Int)) = false from decide_eq_false (by omega))
  have hel0 := (show decide (100 < l0.length) = false from decide_eq_false (by omega))
  have HS := Aside0.mk hs
  clear h h2 hs
  go_enter Try.func7, Try.ntmps7
  go_wp2_with (first | ((with_reducible refine gate_dst (N := 2) rfl ?_); refine box_event ?hg (N := 2) ?hd (cs := #[.int .i64 p, .int .i64 q, .slice A0 l0.length c0, .slice A1 l1.length c1]) (t := 41) ?hr ?_; (case hd => rfl); (case hg => rfl); (case hr => first | (go_simp; done) | (go_simp; rfl)); intro g1 hg wa hbox hb; have n0_ := Aside0.mk (below_step (Below.refl _ _) hb); have n1_ := Aside0.mk hbox;  clear hb hbox hg; have BB := n0_; have G_g1 := n1_; clear n0_ n1_) | ((with_reducible refine gate_dst (N := 3) rfl ?_); refine box_event ?hg (N := 3) ?hd (cs := #[.bool cl, .slice A2 l2.length c2, .slice A3 l3.length c3]) (t := 51) ?hr ?_; (case hd => rfl); (case hg => rfl); (case hr => first | (go_simp; done) | (go_simp; rfl)); intro g2 hg wb hbox hb; have n0_ := Aside0.mk (below_step BB.out hb); have n1_ := Aside0.mk hbox; have n2_ := Aside0.mk (blk_below G_g1.out hb); clear hb hbox hg BB G_g1; have BB := n0_; have G_g2 := n1_; clear n0_ n1_; have G_g1 := n2_; clear n2_; obtain ⟨hg1_0, hg1_1, hg1_2, hg1_3, fg1_0, fg1_1, fg1_2, fg1_3⟩ := bcells4 G_g1.out; obtain ⟨hg2_0, hg2_1, hg2_2, fg2_0, fg2_1, fg2_2⟩ := bcells3 G_g2.out))
  refine (dioramalaw19_small.calls k cl A2 c2 l2 A3 c3 l3 false _ (Kd.C_below HR2.out BB.out) HC2.out (Kd.C_below HR3.out BB.out) HC3.out HS.out).mono ?_
  rintro e w1 ⟨rfl, hb⟩
  replace BB := Aside0.mk (below_step BB.out hb)
  clear hg1_0 hg1_1 hg1_2 hg1_3 fg1_0 fg1_1 fg1_2 fg1_3
  clear hg2_0 hg2_1 hg2_2 fg2_0 fg2_1 fg2_2
  clear hb
  go_wp2_with fail
  go_ret
  exact ⟨rfl, BB.out⟩
set_option maxRecDepth 100000 in
set_option maxHeartbeats 2000000 in
theorem draws_walk {w : World} (k : Nat) (p q : Int) (A0 : Option Addr) (c0 : Nat) (l0 : List Int) (A1 : Option Addr) (c1 : Nat) (l1 : List Int) (cl : Bool) (A2 : Option Addr) (c2 : Nat) (l2 : List Int) (A3 : Option Addr) (c3 : Nat) (l3 : List S91)
    (hr0 : Kd.C (Kd.int .i64) w A0 l0.length l0) (hc0 : l0.length ≤ c0) (hr1 : Kd.C (Kd.int .i64) w A1 l1.length l1) (hc1 : l1.length ≤ c1) (hr2 : Kd.C (Kd.int .i64) w A2 l2.length l2) (hc2 : l2.length ≤ c2) (hr3 : Kd.C k91 w A3 l3.length l3) (hc3 : l3.length ≤ c3) (x1 x2 : Int) (x3 x4 : List Int) (x5 : Int) (y1 : List Int) (y2 : Int) (s : Bool) (h : ¬ 41000 < l1.length) (h2 : ¬ 100 < l0.length) (hS : dioramalaw19_small.f k cl l2 l3 = some true) (hT : dioramalaw19_theirs.f k p q l0 l1 = some (p, q, l0, l1)) (hD : bitmap_Draw.f k p q l0 l1 cl l2 l3 = some (x1, x2, x3, x4, x5)) (hE : dioramaref19_Draw.f k p q l0 l1 cl l2 l3 = some (x1, x2, x3, x4, x5)) (hX : dioramalaw19_same.f k x1 x2 x3 x4 x1 x2 x3 x4 = some true) (hC : dioramalaw19_same.f k p q l0 l1 p q l0 l1 = some true) (hL : bitmap_Colours.f k p q l0 l1 = some (y1, y2)) (hK : dioramaref19_Colours.f k p q l0 l1 = some (y1, y2)) (hQ : dioramaref00_EqInts.f k y1 y1 = some true) (hZ : bitmap_SameCanvas.f k p q l0 l1 x1 x2 x3 x4 = some s) (hV : dioramalaw19_same.f k p q l0 l1 x1 x2 x3 x4 = some s) (hW : dioramalaw19_awake.f k = some true) :
    Calls Try.prog 7 #[.agg #[.int .i64 p, .int .i64 q, .slice A0 l0.length c0, .slice A1 l1.length c1], .agg #[.bool cl, .slice A2 l2.length c2, .slice A3 l3.length c3]] w fun e w' => e = .returned (.bool true) ∧ Below w.heap.size w w' := by
  have hutbitmapCanvas := Try.underlying38
  have hutdioramaref19Canvas := Try.underlying41
  have hutapiPage := Try.underlying51
  have HR0 := Aside0.mk hr0
  have HC0 := Aside0.mk hc0
  have HR1 := Aside0.mk hr1
  have HC1 := Aside0.mk hc1
  have HR2 := Aside0.mk hr2
  have HC2 := Aside0.mk hc2
  have HR3 := Aside0.mk hr3
  have HC3 := Aside0.mk hc3
  clear hr0 hc0 hr1 hc1 hr2 hc2 hr3 hc3
  have hdl1 := (show decide (41000 < (l1.length : Int)) = false from decide_eq_false (by omega))
  have hel1 := (show decide (41000 < l1.length) = false from decide_eq_false (by omega))
  have hdl0 := (show decide (100 < (l0.length : Int)) = false from decide_eq_false (by omega))
  have hel0 := (show decide (100 < l0.length) = false from decide_eq_false (by omega))
  have HS_ := Aside0.mk hS
  have HT_ := Aside0.mk hT
  have HD_ := Aside0.mk hD
  have HE_ := Aside0.mk hE
  have HX_ := Aside0.mk hX
  have HC_ := Aside0.mk hC
  have HL_ := Aside0.mk hL
  have HK_ := Aside0.mk hK
  have HQ_ := Aside0.mk hQ
  have HZ_ := Aside0.mk hZ
  have HV_ := Aside0.mk hV
  have HW_ := Aside0.mk hW
  clear h h2 hS hT hD hE hX hC hL hK hQ hZ hV hW
  go_enter Try.func7, Try.ntmps7
  go_wp2_with (first | ((with_reducible refine gate_dst (N := 2) rfl ?_); refine box_event ?hg (N := 2) ?hd (cs := #[.int .i64 p, .int .i64 q, .slice A0 l0.length c0, .slice A1 l1.length c1]) (t := 41) ?hr ?_; (case hd => rfl); (case hg => rfl); (case hr => first | (go_simp; done) | (go_simp; rfl)); intro g1 hg wa hbox hb; have n0_ := Aside0.mk (below_step (Below.refl _ _) hb); have n1_ := Aside0.mk hbox;  clear hb hbox hg; have BB := n0_; have G_g1 := n1_; clear n0_ n1_) | ((with_reducible refine gate_dst (N := 3) rfl ?_); refine box_event ?hg (N := 3) ?hd (cs := #[.bool cl, .slice A2 l2.length c2, .slice A3 l3.length c3]) (t := 51) ?hr ?_; (case hd => rfl); (case hg => rfl); (case hr => first | (go_simp; done) | (go_simp; rfl)); intro g2 hg wb hbox hb; have n0_ := Aside0.mk (below_step BB.out hb); have n1_ := Aside0.mk hbox; have n2_ := Aside0.mk (blk_below G_g1.out hb); clear hb hbox hg BB G_g1; have BB := n0_; have G_g2 := n1_; clear n0_ n1_; have G_g1 := n2_; clear n2_; obtain ⟨hg1_0, hg1_1, hg1_2, hg1_3, fg1_0, fg1_1, fg1_2, fg1_3⟩ := bcells4 G_g1.out; obtain ⟨hg2_0, hg2_1, hg2_2, fg2_0, fg2_1, fg2_2⟩ := bcells3 G_g2.out))
  refine (dioramalaw19_small.calls k cl A2 c2 l2 A3 c3 l3 true _ (Kd.C_below HR2.out BB.out) HC2.out (Kd.C_below HR3.out BB.out) HC3.out HS_.out).mono ?_
  rintro e w1 ⟨rfl, hb⟩
  clear hg1_0 hg1_1 hg1_2 hg1_3 fg1_0 fg1_1 fg1_2 fg1_3
  clear hg2_0 hg2_1 hg2_2 fg2_0 fg2_1 fg2_2
  replace BB := Aside0.mk (below_step BB.out hb)
  replace G_g1 := Aside0.mk (blk_below G_g1.out hb)
  replace G_g2 := Aside0.mk (blk_below G_g2.out hb)
  clear hb
  obtain ⟨hg1_0, hg1_1, hg1_2, hg1_3, fg1_0, fg1_1, fg1_2, fg1_3⟩ := bcells4 G_g1.out
  obtain ⟨hg2_0, hg2_1, hg2_2, fg2_0, fg2_1, fg2_2⟩ := bcells3 G_g2.out
  go_wp2_with fail
  refine (dioramalaw19_theirs.calls k p q A0 c0 l0 A1 c1 l1 p q l0 l1 _ (Kd.C_below HR0.out BB.out) HC0.out (Kd.C_below HR1.out BB.out) HC1.out HT_.out).mono ?_
  rintro e w2 ⟨va, vb, rfl, sva, svb, hb⟩
  clear hg1_0 hg1_1 hg1_2 hg1_3 fg1_0 fg1_1 fg1_2 fg1_3
  clear hg2_0 hg2_1 hg2_2 fg2_0 fg2_1 fg2_2
  obtain ⟨Aa, ca, rfl⟩ := Kd.R_slice sva
  have La := Aside0.mk (Kd.R_reads' sva).2.1
  have Ca := Aside0.mk (Kd.R_reads' sva).2.2
  clear sva
  obtain ⟨Ab, cb, rfl⟩ := Kd.R_slice svb
  have Lb := Aside0.mk (Kd.R_reads' svb).2.1
  have Cb := Aside0.mk (Kd.R_reads' svb).2.2
  clear svb
  replace BB := Aside0.mk (below_step BB.out hb)
  replace G_g1 := Aside0.mk (blk_below G_g1.out hb)
  replace G_g2 := Aside0.mk (blk_below G_g2.out hb)
  clear hb
  obtain ⟨w3, hw_g3⟩ : ∃ wz, w2.alloc (.cells #[.int .i64 p, .int .i64 q, .slice Aa l0.length ca, .slice Ab l1.length cb] 38) = wz := ⟨_, rfl⟩
  obtain ⟨g3, hg_g3⟩ : ∃ rz, w2.heap.size = rz := ⟨_, rfl⟩
  replace BB : Aside0 (Below w.heap.size w w3) := ⟨by rw [← hw_g3]; exact below_alloc BB.out _⟩
  replace G_g1 : Aside0 (w3.heap[g1]? = some (.cells #[.int .i64 p, .int .i64 q, .slice A0 l0.length c0, .slice A1 l1.length c1] 41 (0, 0))) := ⟨by rw [← hw_g3]; exact blk_alloc G_g1.out _⟩
  replace G_g2 : Aside0 (w3.heap[g2]? = some (.cells #[.bool cl, .slice A2 l2.length c2, .slice A3 l3.length c3] 51 (0, 0))) := ⟨by rw [← hw_g3]; exact blk_alloc G_g2.out _⟩
  replace Ca : Aside0 (Kd.C (Kd.int .i64) w3 Aa l0.length l0) := ⟨by rw [← hw_g3]; exact Kd.C_alloc Ca.out _⟩
  replace Cb : Aside0 (Kd.C (Kd.int .i64) w3 Ab l1.length l1) := ⟨by rw [← hw_g3]; exact Kd.C_alloc Cb.out _⟩
  have G_g3 : Aside0 (w3.heap[g3]? = some (.cells #[.int .i64 p, .int .i64 q, .slice Aa l0.length ca, .slice Ab l1.length cb] 38 (0, 0))) := ⟨by rw [← hw_g3, ← hg_g3]; exact blk_new w2 _⟩
  obtain ⟨hg1_0, hg1_1, hg1_2, hg1_3, fg1_0, fg1_1, fg1_2, fg1_3⟩ := bcells4 G_g1.out
  obtain ⟨hg2_0, hg2_1, hg2_2, fg2_0, fg2_1, fg2_2⟩ := bcells3 G_g2.out
  obtain ⟨hg3_0, hg3_1, hg3_2, hg3_3, fg3_0, fg3_1, fg3_2, fg3_3⟩ := bcells4 G_g3.out
  go_wp2_with fail
  clear hw_g3 hg_g3
  refine (bitmap_Draw.calls k p q Aa ca l0 Ab cb l1 cl A2 c2 l2 A3 c3 l3 x1 x2 x3 x4 x5 _ Ca.out La.out Cb.out Lb.out (Kd.C_below HR2.out BB.out) HC2.out (Kd.C_below HR3.out BB.out) HC3.out HD_.out).mono ?_
  rintro e w4 ⟨vc, vd, rfl, svc, svd, hb⟩
  clear hg1_0 hg1_1 hg1_2 hg1_3 fg1_0 fg1_1 fg1_2 fg1_3
  clear hg2_0 hg2_1 hg2_2 fg2_0 fg2_1 fg2_2
  clear hg3_0 hg3_1 hg3_2 hg3_3 fg3_0 fg3_1 fg3_2 fg3_3
  obtain ⟨Ac, cc, rfl⟩ := Kd.R_slice svc
  have Lc := Aside0.mk (Kd.R_reads' svc).2.1
  have Cc := Aside0.mk (Kd.R_reads' svc).2.2
  clear svc
  obtain ⟨Ad, cd, rfl⟩ := Kd.R_slice svd
  have Ld := Aside0.mk (Kd.R_reads' svd).2.1
  have Cd := Aside0.mk (Kd.R_reads' svd).2.2
  clear svd
  replace BB := Aside0.mk (below_step BB.out hb)
  replace G_g1 := Aside0.mk (blk_below G_g1.out hb)
  replace G_g2 := Aside0.mk (blk_below G_g2.out hb)
  replace G_g3 := Aside0.mk (blk_below G_g3.out hb)
  replace Ca := Aside0.mk (Kd.C_below Ca.out hb)
  replace Cb := Aside0.mk (Kd.C_below Cb.out hb)
  clear hb
  obtain ⟨w5, hw_g4⟩ : ∃ wz, w4.alloc (.cells #[.int .i64 x1, .int .i64 x2, .slice Ac x3.length cc, .slice Ad x4.length cd] 38) = wz := ⟨_, rfl⟩
  obtain ⟨g4, hg_g4⟩ : ∃ rz, w4.heap.size = rz := ⟨_, rfl⟩
  replace BB : Aside0 (Below w.heap.size w w5) := ⟨by rw [← hw_g4]; exact below_alloc BB.out _⟩
  replace G_g1 : Aside0 (w5.heap[g1]? = some (.cells #[.int .i64 p, .int .i64 q, .slice A0 l0.length c0, .slice A1 l1.length c1] 41 (0, 0))) := ⟨by rw [← hw_g4]; exact blk_alloc G_g1.out _⟩
  replace G_g2 : Aside0 (w5.heap[g2]? = some (.cells #[.bool cl, .slice A2 l2.length c2, .slice A3 l3.length c3] 51 (0, 0))) := ⟨by rw [← hw_g4]; exact blk_alloc G_g2.out _⟩
  replace G_g3 : Aside0 (w5.heap[g3]? = some (.cells #[.int .i64 p, .int .i64 q, .slice Aa l0.length ca, .slice Ab l1.length cb] 38 (0, 0))) := ⟨by rw [← hw_g4]; exact blk_alloc G_g3.out _⟩
  replace Ca : Aside0 (Kd.C (Kd.int .i64) w5 Aa l0.length l0) := ⟨by rw [← hw_g4]; exact Kd.C_alloc Ca.out _⟩
  replace Cb : Aside0 (Kd.C (Kd.int .i64) w5 Ab l1.length l1) := ⟨by rw [← hw_g4]; exact Kd.C_alloc Cb.out _⟩
  replace Cc : Aside0 (Kd.C (Kd.int .i64) w5 Ac x3.length x3) := ⟨by rw [← hw_g4]; exact Kd.C_alloc Cc.out _⟩
  replace Cd : Aside0 (Kd.C (Kd.int .i64) w5 Ad x4.length x4) := ⟨by rw [← hw_g4]; exact Kd.C_alloc Cd.out _⟩
  have G_g4 : Aside0 (w5.heap[g4]? = some (.cells #[.int .i64 x1, .int .i64 x2, .slice Ac x3.length cc, .slice Ad x4.length cd] 38 (0, 0))) := ⟨by rw [← hw_g4, ← hg_g4]; exact blk_new w4 _⟩
  obtain ⟨hg1_0, hg1_1, hg1_2, hg1_3, fg1_0, fg1_1, fg1_2, fg1_3⟩ := bcells4 G_g1.out
  obtain ⟨hg2_0, hg2_1, hg2_2, fg2_0, fg2_1, fg2_2⟩ := bcells3 G_g2.out
  obtain ⟨hg3_0, hg3_1, hg3_2, hg3_3, fg3_0, fg3_1, fg3_2, fg3_3⟩ := bcells4 G_g3.out
  obtain ⟨hg4_0, hg4_1, hg4_2, hg4_3, fg4_0, fg4_1, fg4_2, fg4_3⟩ := bcells4 G_g4.out
  go_wp2_with fail
  clear hw_g4 hg_g4
  refine (dioramaref19_Draw.calls k p q A0 c0 l0 A1 c1 l1 cl A2 c2 l2 A3 c3 l3 x1 x2 x3 x4 x5 _ (Kd.C_below HR0.out BB.out) HC0.out (Kd.C_below HR1.out BB.out) HC1.out (Kd.C_below HR2.out BB.out) HC2.out (Kd.C_below HR3.out BB.out) HC3.out HE_.out).mono ?_
  rintro e w6 ⟨ve, vf, rfl, sve, svf, hb⟩
  clear hg1_0 hg1_1 hg1_2 hg1_3 fg1_0 fg1_1 fg1_2 fg1_3
  clear hg2_0 hg2_1 hg2_2 fg2_0 fg2_1 fg2_2
  clear hg3_0 hg3_1 hg3_2 hg3_3 fg3_0 fg3_1 fg3_2 fg3_3
  clear hg4_0 hg4_1 hg4_2 hg4_3 fg4_0 fg4_1 fg4_2 fg4_3
  obtain ⟨Ae, ce, rfl⟩ := Kd.R_slice sve
  have Le := Aside0.mk (Kd.R_reads' sve).2.1
  have Ce := Aside0.mk (Kd.R_reads' sve).2.2
  clear sve
  obtain ⟨Af, cf, rfl⟩ := Kd.R_slice svf
  have Lf := Aside0.mk (Kd.R_reads' svf).2.1
  have Cf := Aside0.mk (Kd.R_reads' svf).2.2
  clear svf
  replace BB := Aside0.mk (below_step BB.out hb)
  replace G_g1 := Aside0.mk (blk_below G_g1.out hb)
  replace G_g2 := Aside0.mk (blk_below G_g2.out hb)
  replace G_g3 := Aside0.mk (blk_below G_g3.out hb)
  replace G_g4 := Aside0.mk (blk_below G_g4.out hb)
  replace Ca := Aside0.mk (Kd.C_below Ca.out hb)
  replace Cb := Aside0.mk (Kd.C_below Cb.out hb)
  replace Cc := Aside0.mk (Kd.C_below Cc.out hb)
  replace Cd := Aside0.mk (Kd.C_below Cd.out hb)
  clear hb
  obtain ⟨w7, hw_g5⟩ : ∃ wz, w6.alloc (.cells #[.int .i64 x1, .int .i64 x2, .slice Ae x3.length ce, .slice Af x4.length cf] 41) = wz := ⟨_, rfl⟩
  obtain ⟨g5, hg_g5⟩ : ∃ rz, w6.heap.size = rz := ⟨_, rfl⟩
  replace BB : Aside0 (Below w.heap.size w w7) := ⟨by rw [← hw_g5]; exact below_alloc BB.out _⟩
  replace G_g1 : Aside0 (w7.heap[g1]? = some (.cells #[.int .i64 p, .int .i64 q, .slice A0 l0.length c0, .slice A1 l1.length c1] 41 (0, 0))) := ⟨by rw [← hw_g5]; exact blk_alloc G_g1.out _⟩
  replace G_g2 : Aside0 (w7.heap[g2]? = some (.cells #[.bool cl, .slice A2 l2.length c2, .slice A3 l3.length c3] 51 (0, 0))) := ⟨by rw [← hw_g5]; exact blk_alloc G_g2.out _⟩
  replace G_g3 : Aside0 (w7.heap[g3]? = some (.cells #[.int .i64 p, .int .i64 q, .slice Aa l0.length ca, .slice Ab l1.length cb] 38 (0, 0))) := ⟨by rw [← hw_g5]; exact blk_alloc G_g3.out _⟩
  replace G_g4 : Aside0 (w7.heap[g4]? = some (.cells #[.int .i64 x1, .int .i64 x2, .slice Ac x3.length cc, .slice Ad x4.length cd] 38 (0, 0))) := ⟨by rw [← hw_g5]; exact blk_alloc G_g4.out _⟩
  replace Ca : Aside0 (Kd.C (Kd.int .i64) w7 Aa l0.length l0) := ⟨by rw [← hw_g5]; exact Kd.C_alloc Ca.out _⟩
  replace Cb : Aside0 (Kd.C (Kd.int .i64) w7 Ab l1.length l1) := ⟨by rw [← hw_g5]; exact Kd.C_alloc Cb.out _⟩
  replace Cc : Aside0 (Kd.C (Kd.int .i64) w7 Ac x3.length x3) := ⟨by rw [← hw_g5]; exact Kd.C_alloc Cc.out _⟩
  replace Cd : Aside0 (Kd.C (Kd.int .i64) w7 Ad x4.length x4) := ⟨by rw [← hw_g5]; exact Kd.C_alloc Cd.out _⟩
  replace Ce : Aside0 (Kd.C (Kd.int .i64) w7 Ae x3.length x3) := ⟨by rw [← hw_g5]; exact Kd.C_alloc Ce.out _⟩
  replace Cf : Aside0 (Kd.C (Kd.int .i64) w7 Af x4.length x4) := ⟨by rw [← hw_g5]; exact Kd.C_alloc Cf.out _⟩
  have G_g5 : Aside0 (w7.heap[g5]? = some (.cells #[.int .i64 x1, .int .i64 x2, .slice Ae x3.length ce, .slice Af x4.length cf] 41 (0, 0))) := ⟨by rw [← hw_g5, ← hg_g5]; exact blk_new w6 _⟩
  obtain ⟨hg1_0, hg1_1, hg1_2, hg1_3, fg1_0, fg1_1, fg1_2, fg1_3⟩ := bcells4 G_g1.out
  obtain ⟨hg2_0, hg2_1, hg2_2, fg2_0, fg2_1, fg2_2⟩ := bcells3 G_g2.out
  obtain ⟨hg3_0, hg3_1, hg3_2, hg3_3, fg3_0, fg3_1, fg3_2, fg3_3⟩ := bcells4 G_g3.out
  obtain ⟨hg4_0, hg4_1, hg4_2, hg4_3, fg4_0, fg4_1, fg4_2, fg4_3⟩ := bcells4 G_g4.out
  obtain ⟨hg5_0, hg5_1, hg5_2, hg5_3, fg5_0, fg5_1, fg5_2, fg5_3⟩ := bcells4 G_g5.out
  go_wp2_with fail
  clear hw_g5 hg_g5
  clear hg1_0 hg1_1 hg1_2 hg1_3 fg1_0 fg1_1 fg1_2 fg1_3
  clear hg2_0 hg2_1 hg2_2 fg2_0 fg2_1 fg2_2
  clear hg3_0 hg3_1 hg3_2 hg3_3 fg3_0 fg3_1 fg3_2 fg3_3
  clear hg4_0 hg4_1 hg4_2 hg4_3 fg4_0 fg4_1 fg4_2 fg4_3
  clear hg5_0 hg5_1 hg5_2 hg5_3 fg5_0 fg5_1 fg5_2 fg5_3
  have KEEP := Aside0.mk (Sit12.all (show Sit12 w w7.drew g1 p q A0 l0 c0 A1 l1 c1 g2 cl A2 l2 c2 A3 l3 c3 g3 Aa ca Ab cb g4 x1 x2 Ac x3 cc Ad x4 cd g5 Ae ce Af cf from ⟨below_drew BB.out, G_g1.out, G_g2.out, G_g3.out, G_g4.out, G_g5.out, Kd.C_drew Ca.out, Kd.C_drew Cb.out, Kd.C_drew Cc.out, Kd.C_drew Cd.out, Kd.C_drew Ce.out, Kd.C_drew Cf.out⟩))
  clear G_g1 G_g2 G_g3 G_g4 G_g5 Ca Cb Cc Cd Ce Cf BB
  have hE : (x5 != x5) = false := by simp
  have hE2 : (x5 == x5) = true := by simp
  go_region_held3 (fun w' => w'.cell? ⟨g1, 0, none⟩ = some (.int .i64 p) ∧ w'.cell? ⟨g1, 1, none⟩ = some (.int .i64 q) ∧ w'.cell? ⟨g1, 2, none⟩ = some (.slice A0 l0.length c0) ∧ w'.cell? ⟨g1, 3, none⟩ = some (.slice A1 l1.length c1) ∧ w'.cell? ⟨g2, 0, none⟩ = some (.bool cl) ∧ w'.cell? ⟨g2, 1, none⟩ = some (.slice A2 l2.length c2) ∧ w'.cell? ⟨g2, 2, none⟩ = some (.slice A3 l3.length c3) ∧ w'.cell? ⟨g3, 0, none⟩ = some (.int .i64 p) ∧ w'.cell? ⟨g3, 1, none⟩ = some (.int .i64 q) ∧ w'.cell? ⟨g3, 2, none⟩ = some (.slice Aa l0.length ca) ∧ w'.cell? ⟨g3, 3, none⟩ = some (.slice Ab l1.length cb) ∧ w'.cell? ⟨g4, 0, none⟩ = some (.int .i64 x1) ∧ w'.cell? ⟨g4, 1, none⟩ = some (.int .i64 x2) ∧ w'.cell? ⟨g4, 2, none⟩ = some (.slice Ac x3.length cc) ∧ w'.cell? ⟨g4, 3, none⟩ = some (.slice Ad x4.length cd) ∧ w'.cell? ⟨g5, 0, none⟩ = some (.int .i64 x1) ∧ w'.cell? ⟨g5, 1, none⟩ = some (.int .i64 x2) ∧ w'.cell? ⟨g5, 2, none⟩ = some (.slice Ae x3.length ce) ∧ w'.cell? ⟨g5, 3, none⟩ = some (.slice Af x4.length cf) ∧ Sit12 w w' g1 p q A0 l0 c0 A1 l1 c1 g2 cl A2 l2 c2 A3 l3 c3 g3 Aa ca Ab cb g4 x1 x2 Ac x3 cc Ad x4 cd g5 Ae ce Af cf) (first | exact KEEP.out | go_keep) (first
    | (go_at_call 22; have HS_ := (show _ ∧ _ ∧ _ ∧ _ ∧ _ ∧ _ ∧ _ ∧ _ ∧ _ ∧ _ ∧ _ ∧ _ ∧ _ ∧ _ ∧ _ ∧ _ ∧ _ ∧ _ ∧ _ ∧ Sit12 w _ g1 p q A0 l0 c0 A1 l1 c1 g2 cl A2 l2 c2 A3 l3 c3 g3 Aa ca Ab cb g4 x1 x2 Ac x3 cc Ad x4 cd g5 Ae ce Af cf from by assumption).2.2.2.2.2.2.2.2.2.2.2.2.2.2.2.2.2.2.2; (with_reducible refine (dioramalaw19_ours.calls x1 x2 Ac cc x3 Ad cd x4 0 _ HS_.r2 Lc.out HS_.r3 Ld.out rfl).mono ?_); rintro e wq ⟨rfl, hb⟩; have KEEP := Aside0.mk (Sit12.all (Sit12.step HS_ hb)); clear HS_ hb)
    | (go_at_call 21; have HS_ := (show _ ∧ _ ∧ _ ∧ _ ∧ _ ∧ _ ∧ _ ∧ _ ∧ _ ∧ _ ∧ _ ∧ _ ∧ _ ∧ _ ∧ _ ∧ _ ∧ _ ∧ _ ∧ _ ∧ Sit12 w _ g1 p q A0 l0 c0 A1 l1 c1 g2 cl A2 l2 c2 A3 l3 c3 g3 Aa ca Ab cb g4 x1 x2 Ac x3 cc Ad x4 cd g5 Ae ce Af cf from by assumption).2.2.2.2.2.2.2.2.2.2.2.2.2.2.2.2.2.2.2; (with_reducible refine (dioramalaw19_same.calls k x1 x2 Ac cc x3 Ad cd x4 x1 x2 Ae ce x3 Af cf x4 true _ HS_.r2 Lc.out HS_.r3 Ld.out HS_.r4 Le.out HS_.r5 Lf.out HX_.out).mono ?_); rintro e wq ⟨rfl, hb⟩; have KEEP := Aside0.mk (Sit12.all (Sit12.step HS_ hb)); clear HS_ hb)
    | (go_at_call 22; have HS_ := (show _ ∧ _ ∧ _ ∧ _ ∧ _ ∧ _ ∧ _ ∧ _ ∧ _ ∧ _ ∧ _ ∧ _ ∧ _ ∧ _ ∧ _ ∧ _ ∧ _ ∧ _ ∧ _ ∧ Sit12 w _ g1 p q A0 l0 c0 A1 l1 c1 g2 cl A2 l2 c2 A3 l3 c3 g3 Aa ca Ab cb g4 x1 x2 Ac x3 cc Ad x4 cd g5 Ae ce Af cf from by assumption).2.2.2.2.2.2.2.2.2.2.2.2.2.2.2.2.2.2.2; (with_reducible refine (dioramalaw19_ours.calls p q Aa ca l0 Ab cb l1 0 _ HS_.r0 La.out HS_.r1 Lb.out rfl).mono ?_); rintro e wq ⟨rfl, hb⟩; have KEEP := Aside0.mk (Sit12.all (Sit12.step HS_ hb)); clear HS_ hb)
    | (go_at_call 21; have HS_ := (show _ ∧ _ ∧ _ ∧ _ ∧ _ ∧ _ ∧ _ ∧ _ ∧ _ ∧ _ ∧ _ ∧ _ ∧ _ ∧ _ ∧ _ ∧ _ ∧ _ ∧ _ ∧ _ ∧ Sit12 w _ g1 p q A0 l0 c0 A1 l1 c1 g2 cl A2 l2 c2 A3 l3 c3 g3 Aa ca Ab cb g4 x1 x2 Ac x3 cc Ad x4 cd g5 Ae ce Af cf from by assumption).2.2.2.2.2.2.2.2.2.2.2.2.2.2.2.2.2.2.2; (with_reducible refine (dioramalaw19_same.calls k p q Aa ca l0 Ab cb l1 p q A0 c0 l0 A1 c1 l1 true _ HS_.r0 La.out HS_.r1 Lb.out (Kd.C_below HR0.out HS_.b) HC0.out (Kd.C_below HR1.out HS_.b) HC1.out HC_.out).mono ?_); rintro e wq ⟨rfl, hb⟩; have KEEP := Aside0.mk (Sit12.all (Sit12.step HS_ hb)); clear HS_ hb))
  have HS_ := (show _ ∧ _ ∧ _ ∧ _ ∧ _ ∧ _ ∧ _ ∧ _ ∧ _ ∧ _ ∧ _ ∧ _ ∧ _ ∧ _ ∧ _ ∧ _ ∧ _ ∧ _ ∧ _ ∧ Sit12 w _ g1 p q A0 l0 c0 A1 l1 c1 g2 cl A2 l2 c2 A3 l3 c3 g3 Aa ca Ab cb g4 x1 x2 Ac x3 cc Ad x4 cd g5 Ae ce Af cf from by assumption).2.2.2.2.2.2.2.2.2.2.2.2.2.2.2.2.2.2.2
  clear KEEP hE hE2
  generalize wq = w20 at HS_ ⊢
  have BB := Aside0.mk HS_.b
  have G_g1 := Aside0.mk HS_.k0
  have G_g2 := Aside0.mk HS_.k1
  have G_g3 := Aside0.mk HS_.k2
  have G_g4 := Aside0.mk HS_.k3
  have G_g5 := Aside0.mk HS_.k4
  have Ca := Aside0.mk HS_.r0
  have Cb := Aside0.mk HS_.r1
  have Cc := Aside0.mk HS_.r2
  have Cd := Aside0.mk HS_.r3
  have Ce := Aside0.mk HS_.r4
  have Cf := Aside0.mk HS_.r5
  clear HS_
  obtain ⟨hg1_0, hg1_1, hg1_2, hg1_3, fg1_0, fg1_1, fg1_2, fg1_3⟩ := bcells4 G_g1.out
  obtain ⟨hg2_0, hg2_1, hg2_2, fg2_0, fg2_1, fg2_2⟩ := bcells3 G_g2.out
  obtain ⟨hg3_0, hg3_1, hg3_2, hg3_3, fg3_0, fg3_1, fg3_2, fg3_3⟩ := bcells4 G_g3.out
  obtain ⟨hg4_0, hg4_1, hg4_2, hg4_3, fg4_0, fg4_1, fg4_2, fg4_3⟩ := bcells4 G_g4.out
  obtain ⟨hg5_0, hg5_1, hg5_2, hg5_3, fg5_0, fg5_1, fg5_2, fg5_3⟩ := bcells4 G_g5.out
  go_wp2_with fail
  refine (bitmap_Colours.calls k p q Aa ca l0 Ab cb l1 y1 y2 _ Ca.out La.out Cb.out Lb.out HL_.out).mono ?_
  rintro e w21 ⟨vg, rfl, svg, hb⟩
  clear hg1_0 hg1_1 hg1_2 hg1_3 fg1_0 fg1_1 fg1_2 fg1_3
  clear hg2_0 hg2_1 hg2_2 fg2_0 fg2_1 fg2_2
  clear hg3_0 hg3_1 hg3_2 hg3_3 fg3_0 fg3_1 fg3_2 fg3_3
  clear hg4_0 hg4_1 hg4_2 hg4_3 fg4_0 fg4_1 fg4_2 fg4_3
  clear hg5_0 hg5_1 hg5_2 hg5_3 fg5_0 fg5_1 fg5_2 fg5_3
  obtain ⟨Ag, cg, rfl⟩ := Kd.R_slice svg
  have Lg := Aside0.mk (Kd.R_reads' svg).2.1
  have Cg := Aside0.mk (Kd.R_reads' svg).2.2
  clear svg
  replace BB := Aside0.mk (below_step BB.out hb)
  replace G_g1 := Aside0.mk (blk_below G_g1.out hb)
  replace G_g2 := Aside0.mk (blk_below G_g2.out hb)
  replace G_g3 := Aside0.mk (blk_below G_g3.out hb)
  replace G_g4 := Aside0.mk (blk_below G_g4.out hb)
  replace G_g5 := Aside0.mk (blk_below G_g5.out hb)
  replace Ca := Aside0.mk (Kd.C_below Ca.out hb)
  replace Cb := Aside0.mk (Kd.C_below Cb.out hb)
  replace Cc := Aside0.mk (Kd.C_below Cc.out hb)
  replace Cd := Aside0.mk (Kd.C_below Cd.out hb)
  replace Ce := Aside0.mk (Kd.C_below Ce.out hb)
  replace Cf := Aside0.mk (Kd.C_below Cf.out hb)
  clear hb
  obtain ⟨hg1_0, hg1_1, hg1_2, hg1_3, fg1_0, fg1_1, fg1_2, fg1_3⟩ := bcells4 G_g1.out
  obtain ⟨hg2_0, hg2_1, hg2_2, fg2_0, fg2_1, fg2_2⟩ := bcells3 G_g2.out
  obtain ⟨hg3_0, hg3_1, hg3_2, hg3_3, fg3_0, fg3_1, fg3_2, fg3_3⟩ := bcells4 G_g3.out
  obtain ⟨hg4_0, hg4_1, hg4_2, hg4_3, fg4_0, fg4_1, fg4_2, fg4_3⟩ := bcells4 G_g4.out
  obtain ⟨hg5_0, hg5_1, hg5_2, hg5_3, fg5_0, fg5_1, fg5_2, fg5_3⟩ := bcells4 G_g5.out
  go_wp2_with fail
  refine (dioramaref19_Colours.calls k p q A0 c0 l0 A1 c1 l1 y1 y2 _ (Kd.C_below HR0.out BB.out) HC0.out (Kd.C_below HR1.out BB.out) HC1.out HK_.out).mono ?_
  rintro e w22 ⟨vh, rfl, svh, hb⟩
  clear hg1_0 hg1_1 hg1_2 hg1_3 fg1_0 fg1_1 fg1_2 fg1_3
  clear hg2_0 hg2_1 hg2_2 fg2_0 fg2_1 fg2_2
  clear hg3_0 hg3_1 hg3_2 hg3_3 fg3_0 fg3_1 fg3_2 fg3_3
  clear hg4_0 hg4_1 hg4_2 hg4_3 fg4_0 fg4_1 fg4_2 fg4_3
  clear hg5_0 hg5_1 hg5_2 hg5_3 fg5_0 fg5_1 fg5_2 fg5_3
  obtain ⟨Ah, ch, rfl⟩ := Kd.R_slice svh
  have Lh := Aside0.mk (Kd.R_reads' svh).2.1
  have Ch := Aside0.mk (Kd.R_reads' svh).2.2
  clear svh
  replace BB := Aside0.mk (below_step BB.out hb)
  replace G_g1 := Aside0.mk (blk_below G_g1.out hb)
  replace G_g2 := Aside0.mk (blk_below G_g2.out hb)
  replace G_g3 := Aside0.mk (blk_below G_g3.out hb)
  replace G_g4 := Aside0.mk (blk_below G_g4.out hb)
  replace G_g5 := Aside0.mk (blk_below G_g5.out hb)
  replace Ca := Aside0.mk (Kd.C_below Ca.out hb)
  replace Cb := Aside0.mk (Kd.C_below Cb.out hb)
  replace Cc := Aside0.mk (Kd.C_below Cc.out hb)
  replace Cd := Aside0.mk (Kd.C_below Cd.out hb)
  replace Ce := Aside0.mk (Kd.C_below Ce.out hb)
  replace Cf := Aside0.mk (Kd.C_below Cf.out hb)
  replace Cg := Aside0.mk (Kd.C_below Cg.out hb)
  clear hb
  obtain ⟨hg1_0, hg1_1, hg1_2, hg1_3, fg1_0, fg1_1, fg1_2, fg1_3⟩ := bcells4 G_g1.out
  obtain ⟨hg2_0, hg2_1, hg2_2, fg2_0, fg2_1, fg2_2⟩ := bcells3 G_g2.out
  obtain ⟨hg3_0, hg3_1, hg3_2, hg3_3, fg3_0, fg3_1, fg3_2, fg3_3⟩ := bcells4 G_g3.out
  obtain ⟨hg4_0, hg4_1, hg4_2, hg4_3, fg4_0, fg4_1, fg4_2, fg4_3⟩ := bcells4 G_g4.out
  obtain ⟨hg5_0, hg5_1, hg5_2, hg5_3, fg5_0, fg5_1, fg5_2, fg5_3⟩ := bcells4 G_g5.out
  go_wp2_with fail
  clear hg1_0 hg1_1 hg1_2 hg1_3 fg1_0 fg1_1 fg1_2 fg1_3
  clear hg2_0 hg2_1 hg2_2 fg2_0 fg2_1 fg2_2
  clear hg3_0 hg3_1 hg3_2 hg3_3 fg3_0 fg3_1 fg3_2 fg3_3
  clear hg4_0 hg4_1 hg4_2 hg4_3 fg4_0 fg4_1 fg4_2 fg4_3
  clear hg5_0 hg5_1 hg5_2 hg5_3 fg5_0 fg5_1 fg5_2 fg5_3
  have KEEP := Aside0.mk (Sit14.all (show Sit14 w w22.drew g1 p q A0 l0 c0 A1 l1 c1 g2 cl A2 l2 c2 A3 l3 c3 g3 Aa ca Ab cb g4 x1 x2 Ac x3 cc Ad x4 cd g5 Ae ce Af cf Ag y1 Ah from ⟨below_drew BB.out, G_g1.out, G_g2.out, G_g3.out, G_g4.out, G_g5.out, Kd.C_drew Ca.out, Kd.C_drew Cb.out, Kd.C_drew Cc.out, Kd.C_drew Cd.out, Kd.C_drew Ce.out, Kd.C_drew Cf.out, Kd.C_drew Cg.out, Kd.C_drew Ch.out⟩))
  clear G_g1 G_g2 G_g3 G_g4 G_g5 Ca Cb Cc Cd Ce Cf Cg Ch BB
  have hE : (y2 != y2) = false := by simp
  have hE2 : (y2 == y2) = true := by simp
  have hE3 : (s == s) = true := by simp
  go_region_held3 (fun w' => w'.cell? ⟨g1, 0, none⟩ = some (.int .i64 p) ∧ w'.cell? ⟨g1, 1, none⟩ = some (.int .i64 q) ∧ w'.cell? ⟨g1, 2, none⟩ = some (.slice A0 l0.length c0) ∧ w'.cell? ⟨g1, 3, none⟩ = some (.slice A1 l1.length c1) ∧ w'.cell? ⟨g2, 0, none⟩ = some (.bool cl) ∧ w'.cell? ⟨g2, 1, none⟩ = some (.slice A2 l2.length c2) ∧ w'.cell? ⟨g2, 2, none⟩ = some (.slice A3 l3.length c3) ∧ w'.cell? ⟨g3, 0, none⟩ = some (.int .i64 p) ∧ w'.cell? ⟨g3, 1, none⟩ = some (.int .i64 q) ∧ w'.cell? ⟨g3, 2, none⟩ = some (.slice Aa l0.length ca) ∧ w'.cell? ⟨g3, 3, none⟩ = some (.slice Ab l1.length cb) ∧ w'.cell? ⟨g4, 0, none⟩ = some (.int .i64 x1) ∧ w'.cell? ⟨g4, 1, none⟩ = some (.int .i64 x2) ∧ w'.cell? ⟨g4, 2, none⟩ = some (.slice Ac x3.length cc) ∧ w'.cell? ⟨g4, 3, none⟩ = some (.slice Ad x4.length cd) ∧ w'.cell? ⟨g5, 0, none⟩ = some (.int .i64 x1) ∧ w'.cell? ⟨g5, 1, none⟩ = some (.int .i64 x2) ∧ w'.cell? ⟨g5, 2, none⟩ = some (.slice Ae x3.length ce) ∧ w'.cell? ⟨g5, 3, none⟩ = some (.slice Af x4.length cf) ∧ Sit14 w w' g1 p q A0 l0 c0 A1 l1 c1 g2 cl A2 l2 c2 A3 l3 c3 g3 Aa ca Ab cb g4 x1 x2 Ac x3 cc Ad x4 cd g5 Ae ce Af cf Ag y1 Ah) (first | exact KEEP.out | go_keep) (first
    | (go_at_call 15; have HS_ := (show _ ∧ _ ∧ _ ∧ _ ∧ _ ∧ _ ∧ _ ∧ _ ∧ _ ∧ _ ∧ _ ∧ _ ∧ _ ∧ _ ∧ _ ∧ _ ∧ _ ∧ _ ∧ _ ∧ Sit14 w _ g1 p q A0 l0 c0 A1 l1 c1 g2 cl A2 l2 c2 A3 l3 c3 g3 Aa ca Ab cb g4 x1 x2 Ac x3 cc Ad x4 cd g5 Ae ce Af cf Ag y1 Ah from by assumption).2.2.2.2.2.2.2.2.2.2.2.2.2.2.2.2.2.2.2; (with_reducible refine (eqi_below k Ag cg y1 Ah ch y1 true _ HS_.r6 Lg.out HS_.r7 Lh.out HQ_.out).mono ?_); rintro e wq ⟨rfl, hb⟩; have KEEP := Aside0.mk (Sit14.all (Sit14.step HS_ hb)); clear HS_ hb)
    | (go_at_call 34; have HS_ := (show _ ∧ _ ∧ _ ∧ _ ∧ _ ∧ _ ∧ _ ∧ _ ∧ _ ∧ _ ∧ _ ∧ _ ∧ _ ∧ _ ∧ _ ∧ _ ∧ _ ∧ _ ∧ _ ∧ Sit14 w _ g1 p q A0 l0 c0 A1 l1 c1 g2 cl A2 l2 c2 A3 l3 c3 g3 Aa ca Ab cb g4 x1 x2 Ac x3 cc Ad x4 cd g5 Ae ce Af cf Ag y1 Ah from by assumption).2.2.2.2.2.2.2.2.2.2.2.2.2.2.2.2.2.2.2; (with_reducible refine (bitmap_SameCanvas.calls k p q Aa ca l0 Ab cb l1 x1 x2 Ac cc x3 Ad cd x4 s _ HS_.r0 La.out HS_.r1 Lb.out HS_.r2 Lc.out HS_.r3 Ld.out HZ_.out).mono ?_); rintro e wq ⟨rfl, hb⟩; have KEEP := Aside0.mk (Sit14.all (Sit14.step HS_ hb)); clear HS_ hb)
    | (go_at_call 22; have HS_ := (show _ ∧ _ ∧ _ ∧ _ ∧ _ ∧ _ ∧ _ ∧ _ ∧ _ ∧ _ ∧ _ ∧ _ ∧ _ ∧ _ ∧ _ ∧ _ ∧ _ ∧ _ ∧ _ ∧ Sit14 w _ g1 p q A0 l0 c0 A1 l1 c1 g2 cl A2 l2 c2 A3 l3 c3 g3 Aa ca Ab cb g4 x1 x2 Ac x3 cc Ad x4 cd g5 Ae ce Af cf Ag y1 Ah from by assumption).2.2.2.2.2.2.2.2.2.2.2.2.2.2.2.2.2.2.2; (with_reducible refine (dioramalaw19_ours.calls x1 x2 Ac cc x3 Ad cd x4 0 _ HS_.r2 Lc.out HS_.r3 Ld.out rfl).mono ?_); rintro e wq ⟨rfl, hb⟩; have KEEP := Aside0.mk (Sit14.all (Sit14.step HS_ hb)); clear HS_ hb)
    | (go_at_call 21; have HS_ := (show _ ∧ _ ∧ _ ∧ _ ∧ _ ∧ _ ∧ _ ∧ _ ∧ _ ∧ _ ∧ _ ∧ _ ∧ _ ∧ _ ∧ _ ∧ _ ∧ _ ∧ _ ∧ _ ∧ Sit14 w _ g1 p q A0 l0 c0 A1 l1 c1 g2 cl A2 l2 c2 A3 l3 c3 g3 Aa ca Ab cb g4 x1 x2 Ac x3 cc Ad x4 cd g5 Ae ce Af cf Ag y1 Ah from by assumption).2.2.2.2.2.2.2.2.2.2.2.2.2.2.2.2.2.2.2; (with_reducible refine (dioramalaw19_same.calls k p q A0 c0 l0 A1 c1 l1 x1 x2 Ac cc x3 Ad cd x4 s _ (Kd.C_below HR0.out HS_.b) HC0.out (Kd.C_below HR1.out HS_.b) HC1.out HS_.r2 Lc.out HS_.r3 Ld.out HV_.out).mono ?_); rintro e wq ⟨rfl, hb⟩; have KEEP := Aside0.mk (Sit14.all (Sit14.step HS_ hb)); clear HS_ hb)
    | (go_at_call 17; have HS_ := (show _ ∧ _ ∧ _ ∧ _ ∧ _ ∧ _ ∧ _ ∧ _ ∧ _ ∧ _ ∧ _ ∧ _ ∧ _ ∧ _ ∧ _ ∧ _ ∧ _ ∧ _ ∧ _ ∧ Sit14 w _ g1 p q A0 l0 c0 A1 l1 c1 g2 cl A2 l2 c2 A3 l3 c3 g3 Aa ca Ab cb g4 x1 x2 Ac x3 cc Ad x4 cd g5 Ae ce Af cf Ag y1 Ah from by assumption).2.2.2.2.2.2.2.2.2.2.2.2.2.2.2.2.2.2.2; (with_reducible refine (dioramalaw19_awake.calls k true _ HW_.out).mono ?_); rintro e wq ⟨rfl, hb⟩; have KEEP := Aside0.mk (Sit14.all (Sit14.step HS_ hb)); clear HS_ hb))
  all_goals (
    go_wp2_with fail
    go_ret
    exact ⟨rfl, ((show _ ∧ _ ∧ _ ∧ _ ∧ _ ∧ _ ∧ _ ∧ _ ∧ _ ∧ _ ∧ _ ∧ _ ∧ _ ∧ _ ∧ _ ∧ _ ∧ _ ∧ _ ∧ _ ∧ Sit14 w _ g1 p q A0 l0 c0 A1 l1 c1 g2 cl A2 l2 c2 A3 l3 c3 g3 Aa ca Ab cb g4 x1 x2 Ac x3 cc Ad x4 cd g5 Ae ce Af cf Ag y1 Ah from by assumption).2.2.2.2.2.2.2.2.2.2.2.2.2.2.2.2.2.2.2).b⟩)
/-- What the statement asks, said of both sides' answers. -/
def dioramalaw19_BitmapDraws.f (k : Nat) (a0_0 : Int) (a0_1 : Int) (l0_2 : List Int) (l0_3 : List Int) (a1_0 : Bool) (l1_1 : List Int) (l1_2 : List S91) : Option Bool :=
  if 41000 < l0_3.length then some true else if 100 < l0_2.length then some true else (dioramalaw19_small.f k a1_0 l1_1 l1_2).bind fun p => if p = false then some true else
  (dioramalaw19_theirs.f k a0_0 a0_1 l0_2 l0_3).bind fun c => (bitmap_Draw.f k a0_0 a0_1 l0_2 l0_3 a1_0 l1_1 l1_2).bind fun x => (dioramaref19_Draw.f k a0_0 a0_1 l0_2 l0_3 a1_0 l1_1 l1_2).bind fun x' =>
  (dioramalaw19_same.f k x.1 x.2.1 x.2.2.1 x.2.2.2.1 x.1 x.2.1 x.2.2.1 x.2.2.2.1).bind fun t => (dioramalaw19_same.f k a0_0 a0_1 l0_2 l0_3 a0_0 a0_1 l0_2 l0_3).bind fun t2 =>
  (bitmap_Colours.f k a0_0 a0_1 l0_2 l0_3).bind fun y => (dioramaref19_Colours.f k a0_0 a0_1 l0_2 l0_3).bind fun y' => (dioramaref00_EqInts.f k y.1 y.1).bind fun u =>
  (bitmap_SameCanvas.f k a0_0 a0_1 l0_2 l0_3 x.1 x.2.1 x.2.2.1 x.2.2.2.1).bind fun s => (dioramalaw19_same.f k a0_0 a0_1 l0_2 l0_3 x.1 x.2.1 x.2.2.1 x.2.2.2.1).bind fun s' => (dioramalaw19_awake.f k).bind fun v =>
  if c = (a0_0, a0_1, l0_2, l0_3) ∧ x = x' ∧ t = true ∧ t2 = true ∧ y = y' ∧ u = true ∧ s = s' ∧ v = true then some true else none
theorem dioramalaw19_BitmapDraws.calls (k : Nat) (a0_0 : Int) (a0_1 : Int) (A0_2 : Option Addr) (c0_2 : Nat) (l0_2 : List Int) (A0_3 : Option Addr) (c0_3 : Nat) (l0_3 : List Int) (a1_0 : Bool) (A1_1 : Option Addr) (c1_1 : Nat) (l1_1 : List Int) (A1_2 : Option Addr) (c1_2 : Nat) (l1_2 : List S91) (r : Bool) (w : World) (hr0_2 : Kd.C (Kd.int .i64) w A0_2 l0_2.length l0_2) (hc0_2 : l0_2.length ≤ c0_2) (hr0_3 : Kd.C (Kd.int .i64) w A0_3 l0_3.length l0_3) (hc0_3 : l0_3.length ≤ c0_3) (hr1_1 : Kd.C (Kd.int .i64) w A1_1 l1_1.length l1_1) (hc1_1 : l1_1.length ≤ c1_1) (hr1_2 : Kd.C k91 w A1_2 l1_2.length l1_2) (hc1_2 : l1_2.length ≤ c1_2) (h : dioramalaw19_BitmapDraws.f k a0_0 a0_1 l0_2 l0_3 a1_0 l1_1 l1_2 = some r) :
    Calls Try.prog 7 #[.agg #[.int .i64 a0_0, .int .i64 a0_1, .slice A0_2 l0_2.length c0_2, .slice A0_3 l0_3.length c0_3], .agg #[.bool a1_0, .slice A1_1 l1_1.length c1_1, .slice A1_2 l1_2.length c1_2]] w fun e w' => e = .returned (.bool r) ∧ Below w.heap.size w w' := by
  unfold dioramalaw19_BitmapDraws.f at h
  by_cases b1 : 41000 < l0_3.length
  · rw [if_pos b1] at h
    obtain rfl := Option.some.inj h
    exact draws_a k a0_0 a0_1 A0_2 c0_2 l0_2 A0_3 c0_3 l0_3 a1_0 A1_1 c1_1 l1_1 A1_2 c1_2 l1_2 hr0_2 hc0_2 hr0_3 hc0_3 hr1_1 hc1_1 hr1_2 hc1_2 b1
  rw [if_neg b1] at h
  by_cases b2 : 100 < l0_2.length
  · rw [if_pos b2] at h
    obtain rfl := Option.some.inj h
    exact draws_b k a0_0 a0_1 A0_2 c0_2 l0_2 A0_3 c0_3 l0_3 a1_0 A1_1 c1_1 l1_1 A1_2 c1_2 l1_2 hr0_2 hc0_2 hr0_3 hc0_3 hr1_1 hc1_1 hr1_2 hc1_2 b1 b2
  rw [if_neg b2] at h
  obtain ⟨p, hS, q1⟩ := Option.bind_eq_some_iff.mp h
  cases p with
  | false =>
    rw [if_pos rfl] at q1
    obtain rfl := Option.some.inj q1
    exact draws_c k a0_0 a0_1 A0_2 c0_2 l0_2 A0_3 c0_3 l0_3 a1_0 A1_1 c1_1 l1_1 A1_2 c1_2 l1_2 hr0_2 hc0_2 hr0_3 hc0_3 hr1_1 hc1_1 hr1_2 hc1_2 b1 b2 hS
  | true =>
    rw [if_neg (by simp)] at q1
    obtain ⟨c, hT, q2⟩ := Option.bind_eq_some_iff.mp q1
    obtain ⟨⟨x1, x2, x3, x4, x5⟩, hD, q3⟩ := Option.bind_eq_some_iff.mp q2
    obtain ⟨x', hE, q4⟩ := Option.bind_eq_some_iff.mp q3
    obtain ⟨t, hX, q5⟩ := Option.bind_eq_some_iff.mp q4
    obtain ⟨t2, hC, q6⟩ := Option.bind_eq_some_iff.mp q5
    obtain ⟨⟨y1, y2⟩, hL, q7⟩ := Option.bind_eq_some_iff.mp q6
    obtain ⟨y', hK, q8⟩ := Option.bind_eq_some_iff.mp q7
    obtain ⟨u, hQ, q9⟩ := Option.bind_eq_some_iff.mp q8
    obtain ⟨s, hZ, q10⟩ := Option.bind_eq_some_iff.mp q9
    obtain ⟨s', hV, q11⟩ := Option.bind_eq_some_iff.mp q10
    obtain ⟨v, hW, q12⟩ := Option.bind_eq_some_iff.mp q11
    by_cases hc : c = (a0_0, a0_1, l0_2, l0_3) ∧ (x1, x2, x3, x4, x5) = x' ∧ t = true ∧ t2 = true ∧ (y1, y2) = y' ∧ u = true ∧ s = s' ∧ v = true
    · rw [if_pos hc] at q12
      obtain rfl := Option.some.inj q12
      obtain ⟨rfl, rfl, rfl, rfl, rfl, rfl, rfl, rfl⟩ := hc
      exact draws_walk k a0_0 a0_1 A0_2 c0_2 l0_2 A0_3 c0_3 l0_3 a1_0 A1_1 c1_1 l1_1 A1_2 c1_2 l1_2 hr0_2 hc0_2 hr0_3 hc0_3 hr1_1 hc1_1 hr1_2 hc1_2 x1 x2 x3 x4 x5 y1 y2 s b1 b2 hS hT hD hE hX hC hL hK hQ hZ hV hW
    · rw [if_neg hc] at q12; cases q12
end Go.Proofs.Ytaebgjdaoloceaa.QBmpD
