/- A lemma file: the law BitmapPages, walked. No condition. -/
import Derived.Test.YtaebgjdaoloceaaQBmpPx5
import Derived.Test.YtaebgjdaoloceaaQBmpPx6
import Derived.Test.YtaebgjdaoloceaaQBmpPx3
import Derived.Test.YtaebgjdaoloceaaQBmpPx4
import Derived.Test.YtaebgjdaoloceaaQBmpPx6
import Derived.Test.YtaebgjdaoloceaaQBmpPx7
import Derived.Test.YtaebgjdaoloceaaQBmpPx3
import Derived.Test.YtaebgjdaoloceaaQBmpPx1
import Derived.Test.YtaebgjdaoloceaaQBmpPx2
import Derived.Test.YtaebgjdaoloceaaQBmpPx2
import Derived.Deep.RegionHeld3
namespace Go.Proofs.Ytaebgjdaoloceaa.QBmpP
open Go.RowKit Go.Proofs.YtaebgjdaoloceaaW.PrintWords Go.Proofs.YtaebgjdaoloceaaW.PrintLast Go.Proofs.YtaebgjdaoloceaaW.PrintMore Go.Proofs.YtaebgjdaoloceaaV
set_option linter.unusedVariables false
set_option linter.unusedSimpArgs false
/-- Two pages in memory. -/
structure Pgs (w0 w : World) (g1 g2 : Nat) (a : Bool) (A1 : Option Addr) (c1 : Nat) (l1 : List Int) (A2 : Option Addr) (c2 : Nat) (l2 : List S91) (b : Bool) (B1 : Option Addr) (d1 : Nat) (m1 : List Int) (B2 : Option Addr) (d2 : Nat) (m2 : List S91) : Prop where
  bl : Below w0.heap.size w0 w
  k1 : w.heap[g1]? = some (.cells #[.bool a, .slice A1 l1.length c1, .slice A2 l2.length c2] 51 (0, 0))
  k2 : w.heap[g2]? = some (.cells #[.bool b, .slice B1 m1.length d1, .slice B2 m2.length d2] 51 (0, 0))
section
variable {w0 w w' : World} {g1 g2 : Nat} {a : Bool} {A1 : Option Addr} {c1 : Nat} {l1 : List Int} {A2 : Option Addr} {c2 : Nat} {l2 : List S91} {b : Bool} {B1 : Option Addr} {d1 : Nat} {m1 : List Int} {B2 : Option Addr} {d2 : Nat} {m2 : List S91}
theorem Pgs.step (h : Pgs w0 w g1 g2 a A1 c1 l1 A2 c2 l2 b B1 d1 m1 B2 d2 m2) (hb : Below w.heap.size w w') : Pgs w0 w' g1 g2 a A1 c1 l1 A2 c2 l2 b B1 d1 m1 B2 d2 m2 := ⟨below_step h.bl hb, blk_below h.k1 hb, blk_below h.k2 hb⟩
theorem Pgs.drew (h : Pgs w0 w g1 g2 a A1 c1 l1 A2 c2 l2 b B1 d1 m1 B2 d2 m2) : Pgs w0 w.drew g1 g2 a A1 c1 l1 A2 c2 l2 b B1 d1 m1 B2 d2 m2 := h.step (below_drew (Below.refl _ _))
theorem Pgs.all (h : Pgs w0 w g1 g2 a A1 c1 l1 A2 c2 l2 b B1 d1 m1 B2 d2 m2) : w.cell? ⟨g1, 0, none⟩ = some (.bool a) ∧ w.cell? ⟨g1, 1, none⟩ = some (.slice A1 l1.length c1) ∧ w.cell? ⟨g1, 2, none⟩ = some (.slice A2 l2.length c2) ∧ w.cell? ⟨g2, 0, none⟩ = some (.bool b) ∧ w.cell? ⟨g2, 1, none⟩ = some (.slice B1 m1.length d1) ∧ w.cell? ⟨g2, 2, none⟩ = some (.slice B2 m2.length d2) ∧ Pgs w0 w g1 g2 a A1 c1 l1 A2 c2 l2 b B1 d1 m1 B2 d2 m2 :=
  ⟨(blk_cell h.k1 0).trans rfl, (blk_cell h.k1 1).trans rfl, (blk_cell h.k1 2).trans rfl, (blk_cell h.k2 0).trans rfl, (blk_cell h.k2 1).trans rfl, (blk_cell h.k2 2).trans rfl, h⟩
end
set_option maxRecDepth 100000 in
set_option maxHeartbeats 2000000 in
theorem pages_not {w : World} (k : Nat) (a : Bool) (A1 : Option Addr) (c1 : Nat) (l1 : List Int) (A2 : Option Addr) (c2 : Nat) (l2 : List S91) (b : Bool) (B1 : Option Addr) (d1 : Nat) (m1 : List Int) (B2 : Option Addr) (d2 : Nat) (m2 : List S91)
    (hr1 : Kd.C (Kd.int .i64) w A1 l1.length l1) (hc1 : l1.length ≤ c1) (hr2 : Kd.C k91 w A2 l2.length l2) (hc2 : l2.length ≤ c2) (h1 : dioramalaw19_small.f k a l1 l2 = some false) :
    Calls Try.prog 9 #[.agg #[.bool a, .slice A1 l1.length c1, .slice A2 l2.length c2], .agg #[.bool b, .slice B1 m1.length d1, .slice B2 m2.length d2]] w fun e w' => e = .returned (.bool true) ∧ Below w.heap.size w w' := by
  have hu := Try.underlying51
  have Hr1 := Aside0.mk hr1
  have Hc1 := Aside0.mk hc1
  have Hr2 := Aside0.mk hr2
  have Hc2 := Aside0.mk hc2
  have H1 := Aside0.mk h1
  clear hr1 hc1 hr2 hc2 h1
  go_enter Try.func9, Try.ntmps9
  obtain ⟨w1, hw1⟩ : ∃ wz, w.alloc (.cells #[.bool a, .slice A1 l1.length c1, .slice A2 l2.length c2] 51) = wz := ⟨_, rfl⟩
  obtain ⟨g1, hg1⟩ : ∃ rz, w.heap.size = rz := ⟨_, rfl⟩
  obtain ⟨w2, hw2⟩ : ∃ wz, w1.alloc (.cells #[.bool b, .slice B1 m1.length d1, .slice B2 m2.length d2] 51) = wz := ⟨_, rfl⟩
  obtain ⟨g2, hg2⟩ : ∃ rz, w1.heap.size = rz := ⟨_, rfl⟩
  have P2 : Aside0 (Pgs w w2 g1 g2 a A1 c1 l1 A2 c2 l2 b B1 d1 m1 B2 d2 m2 ∧ w.heap.size ≤ g1 ∧ w.heap.size ≤ g2) := ⟨by
    rw [← hw2, ← hg2, ← hw1, ← hg1]
    exact ⟨⟨below_alloc (below_alloc (Below.refl _ _) _) _, blk_alloc (blk_new w _) _, blk_new _ _⟩, Nat.le_refl _, (below_alloc (Below.refl w.heap.size w) _).size⟩⟩
  obtain ⟨z0, z1, z2, y0, y1, y2, _⟩ := P2.out.1.all
  go_wp2_with fail
  refine (dioramalaw19_small.calls k a A1 c1 l1 A2 c2 l2 false w2 (Kd.C_below Hr1.out P2.out.1.bl) Hc1.out (Kd.C_below Hr2.out P2.out.1.bl) Hc2.out H1.out).mono ?_
  rintro e w3 ⟨rfl, hb⟩
  have P3 := Aside0.mk (P2.out.1.step hb)
  clear hb z0 z1 z2 y0 y1 y2 hw1 hw2 hg1 hg2
  go_wp2_with fail
  go_ret
  exact ⟨rfl, P3.out.bl⟩
set_option maxRecDepth 100000 in
set_option maxHeartbeats 2000000 in
theorem pages_not2 {w : World} (k : Nat) (a : Bool) (A1 : Option Addr) (c1 : Nat) (l1 : List Int) (A2 : Option Addr) (c2 : Nat) (l2 : List S91) (b : Bool) (B1 : Option Addr) (d1 : Nat) (m1 : List Int) (B2 : Option Addr) (d2 : Nat) (m2 : List S91)
    (hr1 : Kd.C (Kd.int .i64) w A1 l1.length l1) (hc1 : l1.length ≤ c1) (hr2 : Kd.C k91 w A2 l2.length l2) (hc2 : l2.length ≤ c2) (hs1 : Kd.C (Kd.int .i64) w B1 m1.length m1) (hd1 : m1.length ≤ d1) (hs2 : Kd.C k91 w B2 m2.length m2) (hd2 : m2.length ≤ d2) (h1 : dioramalaw19_small.f k a l1 l2 = some true) (h2 : dioramalaw19_small.f k b m1 m2 = some false) :
    Calls Try.prog 9 #[.agg #[.bool a, .slice A1 l1.length c1, .slice A2 l2.length c2], .agg #[.bool b, .slice B1 m1.length d1, .slice B2 m2.length d2]] w fun e w' => e = .returned (.bool true) ∧ Below w.heap.size w w' := by
  have hu := Try.underlying51
  have Hr1 := Aside0.mk hr1
  have Hc1 := Aside0.mk hc1
  have Hr2 := Aside0.mk hr2
  have Hc2 := Aside0.mk hc2
  have Hs1 := Aside0.mk hs1
  have Hd1 := Aside0.mk hd1
  have Hs2 := Aside0.mk hs2
  have Hd2 := Aside0.mk hd2
  have H1 := Aside0.mk h1
  have H2 := Aside0.mk h2
  clear hr1 hc1 hr2 hc2 hs1 hd1 hs2 hd2 h1 h2
  go_enter Try.func9, Try.ntmps9
  obtain ⟨w1, hw1⟩ : ∃ wz, w.alloc (.cells #[.bool a, .slice A1 l1.length c1, .slice A2 l2.length c2] 51) = wz := ⟨_, rfl⟩
  obtain ⟨g1, hg1⟩ : ∃ rz, w.heap.size = rz := ⟨_, rfl⟩
  obtain ⟨w2, hw2⟩ : ∃ wz, w1.alloc (.cells #[.bool b, .slice B1 m1.length d1, .slice B2 m2.length d2] 51) = wz := ⟨_, rfl⟩
  obtain ⟨g2, hg2⟩ : ∃ rz, w1.heap.size = rz := ⟨_, rfl⟩
  have P2 : Aside0 (Pgs w w2 g1 g2 a A1 c1 l1 A2 c2 l2 b B1 d1 m1 B2 d2 m2 ∧ w.heap.size ≤ g1 ∧ w.heap.size ≤ g2) := ⟨by
    rw [← hw2, ← hg2, ← hw1, ← hg1]
    exact ⟨⟨below_alloc (below_alloc (Below.refl _ _) _) _, blk_alloc (blk_new w _) _, blk_new _ _⟩, Nat.le_refl _, (below_alloc (Below.refl w.heap.size w) _).size⟩⟩
  obtain ⟨z0, z1, z2, y0, y1, y2, _⟩ := P2.out.1.all
  go_wp2_with fail
  refine (dioramalaw19_small.calls k a A1 c1 l1 A2 c2 l2 true w2 (Kd.C_below Hr1.out P2.out.1.bl) Hc1.out (Kd.C_below Hr2.out P2.out.1.bl) Hc2.out H1.out).mono ?_
  rintro e w3 ⟨rfl, hb⟩
  have P3 := Aside0.mk (P2.out.1.step hb)
  clear hb z0 z1 z2 y0 y1 y2 hw1 hw2 hg1 hg2
  obtain ⟨z0, z1, z2, y0, y1, y2, _⟩ := P3.out.all
  go_wp2_with fail
  refine (dioramalaw19_small.calls k b B1 d1 m1 B2 d2 m2 false w3 (Kd.C_below Hs1.out P3.out.bl) Hd1.out (Kd.C_below Hs2.out P3.out.bl) Hd2.out H2.out).mono ?_
  rintro e w4 ⟨rfl, hb⟩
  have P4 := Aside0.mk (P3.out.step hb)
  clear hb z0 z1 z2 y0 y1 y2
  go_wp2_with fail
  go_ret
  exact ⟨rfl, P4.out.bl⟩
theorem Keep9 {w0 w : World} {g1 g2 : Nat} {a : Bool} {A1 : Option Addr} {c1 : Nat} {l1 : List Int} {A2 : Option Addr} {c2 : Nat} {l2 : List S91} {b : Bool} {B1 : Option Addr} {d1 : Nat} {m1 : List Int} {B2 : Option Addr} {d2 : Nat} {m2 : List S91} {P Q : Prop} (h : Pgs w0 w g1 g2 a A1 c1 l1 A2 c2 l2 b B1 d1 m1 B2 d2 m2) (p : P) (q : Q) :
    w.cell? ⟨g1, 0, none⟩ = some (.bool a) ∧ w.cell? ⟨g1, 1, none⟩ = some (.slice A1 l1.length c1) ∧ w.cell? ⟨g1, 2, none⟩ = some (.slice A2 l2.length c2) ∧ w.cell? ⟨g2, 0, none⟩ = some (.bool b) ∧ w.cell? ⟨g2, 1, none⟩ = some (.slice B1 m1.length d1) ∧ w.cell? ⟨g2, 2, none⟩ = some (.slice B2 m2.length d2) ∧ Pgs w0 w g1 g2 a A1 c1 l1 A2 c2 l2 b B1 d1 m1 B2 d2 m2 ∧ P ∧ Q :=
  ⟨h.all.1, h.all.2.1, h.all.2.2.1, h.all.2.2.2.1, h.all.2.2.2.2.1, h.all.2.2.2.2.2.1, h, p, q⟩
set_option maxRecDepth 100000 in
set_option maxHeartbeats 2000000 in
theorem pages_walk {w : World} (k : Nat) (a : Bool) (A1 : Option Addr) (c1 : Nat) (l1 : List Int) (A2 : Option Addr) (c2 : Nat) (l2 : List S91) (b : Bool) (B1 : Option Addr) (d1 : Nat) (m1 : List Int) (B2 : Option Addr) (d2 : Nat) (m2 : List S91)
    (hr1 : Kd.C (Kd.int .i64) w A1 l1.length l1) (hc1 : l1.length ≤ c1) (hr2 : Kd.C k91 w A2 l2.length l2) (hc2 : l2.length ≤ c2) (hs1 : Kd.C (Kd.int .i64) w B1 m1.length m1) (hd1 : m1.length ≤ d1) (hs2 : Kd.C k91 w B2 m2.length m2) (hd2 : m2.length ≤ d2) (x1 : List Int) (x2 x3 : Int) (x4 : Bool) (h1 : dioramalaw19_small.f k a l1 l2 = some true) (h2 : dioramalaw19_small.f k b m1 m2 = some true) (h3 : bitmap_Encode.f k a l1 l2 = some (x1, x2)) (h4 : dioramaref19_Encode.f k a l1 l2 = some (x1, x2)) (h5 : dioramaref00_EqBytes.f k x1 x1 = some true) (h6 : bitmap_Check.f k a l1 l2 = some x3) (h7 : dioramaref19_Check.f k a l1 l2 = some x3) (h8 : bitmap_Same.f k a l1 l2 b m1 m2 = some x4) (h9 : dioramaref00_EqPage.f k a l1 l2 b m1 m2 = some x4) (h10 : bitmap_Same.f k a l1 l2 a l1 l2 = some true)
    (h11 : x2 = 0 → bitmap_Decode.f k x1 = some (a, l1, l2, 0)) (h12 : dioramaref00_EqPage.f k a l1 l2 a l1 l2 = some true) (h13 : dioramalaw19_awake.f k = some true) :
    Calls Try.prog 9 #[.agg #[.bool a, .slice A1 l1.length c1, .slice A2 l2.length c2], .agg #[.bool b, .slice B1 m1.length d1, .slice B2 m2.length d2]] w fun e w' => e = .returned (.bool true) ∧ Below w.heap.size w w' := by
  have hu := Try.underlying51
  have Hr1 := Aside0.mk hr1
  have Hc1 := Aside0.mk hc1
  have Hr2 := Aside0.mk hr2
  have Hc2 := Aside0.mk hc2
  have Hs1 := Aside0.mk hs1
  have Hd1 := Aside0.mk hd1
  have Hs2 := Aside0.mk hs2
  have Hd2 := Aside0.mk hd2
  have H1 := Aside0.mk h1
  have H2 := Aside0.mk h2
  have H3 := Aside0.mk h3
  have H4 := Aside0.mk h4
  have H5 := Aside0.mk h5
  have H6 := Aside0.mk h6
  have H7 := Aside0.mk h7
  have H8 := Aside0.mk h8
  have H9 := Aside0.mk h9
  have H10 := Aside0.mk h10
  have H11 := Aside0.mk h11
  have H12 := Aside0.mk h12
  have H13 := Aside0.mk h13
  clear hr1 hc1 hr2 hc2 hs1 hd1 hs2 hd2 h1 h2 h3 h4 h5 h6 h7 h8 h9 h10 h11 h12 h13
  go_enter Try.func9, Try.ntmps9
  obtain ⟨w1, hw1⟩ : ∃ wz, w.alloc (.cells #[.bool a, .slice A1 l1.length c1, .slice A2 l2.length c2] 51) = wz := ⟨_, rfl⟩
  obtain ⟨g1, hg1⟩ : ∃ rz, w.heap.size = rz := ⟨_, rfl⟩
  obtain ⟨w2, hw2⟩ : ∃ wz, w1.alloc (.cells #[.bool b, .slice B1 m1.length d1, .slice B2 m2.length d2] 51) = wz := ⟨_, rfl⟩
  obtain ⟨g2, hg2⟩ : ∃ rz, w1.heap.size = rz := ⟨_, rfl⟩
  have P2 : Aside0 (Pgs w w2 g1 g2 a A1 c1 l1 A2 c2 l2 b B1 d1 m1 B2 d2 m2 ∧ w.heap.size ≤ g1 ∧ w.heap.size ≤ g2) := ⟨by
    rw [← hw2, ← hg2, ← hw1, ← hg1]
    exact ⟨⟨below_alloc (below_alloc (Below.refl _ _) _) _, blk_alloc (blk_new w _) _, blk_new _ _⟩, Nat.le_refl _, (below_alloc (Below.refl w.heap.size w) _).size⟩⟩
  obtain ⟨z0, z1, z2, y0, y1, y2, _⟩ := P2.out.1.all
  go_wp2_with fail
  refine (dioramalaw19_small.calls k a A1 c1 l1 A2 c2 l2 true w2 (Kd.C_below Hr1.out P2.out.1.bl) Hc1.out (Kd.C_below Hr2.out P2.out.1.bl) Hc2.out H1.out).mono ?_
  rintro e w3 ⟨rfl, hb⟩
  have P3 := Aside0.mk (P2.out.1.step hb)
  clear hb z0 z1 z2 y0 y1 y2 hw1 hw2 hg1 hg2
  obtain ⟨z0, z1, z2, y0, y1, y2, _⟩ := P3.out.all
  go_wp2_with fail
  refine (dioramalaw19_small.calls k b B1 d1 m1 B2 d2 m2 true w3 (Kd.C_below Hs1.out P3.out.bl) Hd1.out (Kd.C_below Hs2.out P3.out.bl) Hd2.out H2.out).mono ?_
  rintro e w4 ⟨rfl, hb⟩
  have P4 := Aside0.mk (P3.out.step hb)
  clear hb z0 z1 z2 y0 y1 y2
  obtain ⟨z0, z1, z2, y0, y1, y2, _⟩ := P4.out.all
  go_wp2_with fail
  refine (bitmap_Encode.calls k a A1 c1 l1 A2 c2 l2 x1 x2 w4 (Kd.C_below Hr1.out P4.out.bl) Hc1.out (Kd.C_below Hr2.out P4.out.bl) Hc2.out H3.out).mono ?_
  rintro e w5 ⟨v5, rfl, s5, hb⟩
  obtain ⟨Ab, cb, rfl⟩ := Kd.R_slice s5
  have Qb := Aside0.mk (Kd.R_reads' s5).2.1
  have Rb := Aside0.mk (Kd.R_reads' s5).2.2
  have P5 := Aside0.mk (P4.out.step hb)
  clear hb z0 z1 z2 y0 y1 y2 s5
  obtain ⟨z0, z1, z2, y0, y1, y2, _⟩ := P5.out.all
  go_wp2_with fail
  refine (dioramaref19_Encode.calls k a A1 c1 l1 A2 c2 l2 x1 x2 w5 (Kd.C_below Hr1.out P5.out.bl) Hc1.out (Kd.C_below Hr2.out P5.out.bl) Hc2.out H4.out).mono ?_
  rintro e w6 ⟨v6, rfl, s6, hb⟩
  obtain ⟨Ac, cc, rfl⟩ := Kd.R_slice s6
  have Qc := Aside0.mk (Kd.R_reads' s6).2.1
  have Rc := Aside0.mk (Kd.R_reads' s6).2.2
  have Rb6 := Aside0.mk (Kd.C_below Rb.out hb)
  have P6 := Aside0.mk (P5.out.step hb)
  clear hb z0 z1 z2 y0 y1 y2 s6
  go_wp2_with fail
  have KEEP := Aside0.mk (Keep9 (Pgs.drew P6.out) (Kd.C_below Rb6.out (below_drew (Below.refl _ _))) (Kd.C_below Rc.out (below_drew (Below.refl _ _))))
  have hE : (x2 != x2) = false := by simp
  have hE2 : (x2 == x2) = true := by simp
  have hE3 : (x3 != x3) = false := by simp
  have hE4 : (x4 != x4) = false := by simp
  go_region_held3 (fun w' => w'.cell? ⟨g1, 0, none⟩ = some (.bool a) ∧ w'.cell? ⟨g1, 1, none⟩ = some (.slice A1 l1.length c1) ∧ w'.cell? ⟨g1, 2, none⟩ = some (.slice A2 l2.length c2) ∧ w'.cell? ⟨g2, 0, none⟩ = some (.bool b) ∧ w'.cell? ⟨g2, 1, none⟩ = some (.slice B1 m1.length d1) ∧ w'.cell? ⟨g2, 2, none⟩ = some (.slice B2 m2.length d2) ∧ Pgs w w' g1 g2 a A1 c1 l1 A2 c2 l2 b B1 d1 m1 B2 d2 m2 ∧ Kd.C (Kd.int .u8) w' Ab x1.length x1 ∧ Kd.C (Kd.int .u8) w' Ac x1.length x1) (first | exact KEEP.out | go_keep) (first
    | (go_at_call 13; (with_reducible refine (dioramaref00_EqBytes.calls k Ab cb x1 Ac cc x1 true _ ?s0 Qb.out ?s1 Qc.out H5.out).mono ?_); (case s0 => exact (show _ ∧ _ ∧ _ ∧ _ ∧ _ ∧ _ ∧ Pgs w _ g1 g2 _ _ _ _ _ _ _ _ _ _ _ _ _ _ ∧ _ ∧ _ from by assumption).2.2.2.2.2.2.2.1); (case s1 => exact (show _ ∧ _ ∧ _ ∧ _ ∧ _ ∧ _ ∧ Pgs w _ g1 g2 _ _ _ _ _ _ _ _ _ _ _ _ _ _ ∧ _ ∧ _ from by assumption).2.2.2.2.2.2.2.2); rintro e wq ⟨rfl, hb⟩; replace hb := hb.below; have KEEP := Aside0.mk (Keep9 (Pgs.step (show _ ∧ _ ∧ _ ∧ _ ∧ _ ∧ _ ∧ Pgs w _ g1 g2 _ _ _ _ _ _ _ _ _ _ _ _ _ _ ∧ _ ∧ _ from by assumption).2.2.2.2.2.2.1 hb) (Kd.C_below (show _ ∧ _ ∧ _ ∧ _ ∧ _ ∧ _ ∧ Pgs w _ g1 g2 _ _ _ _ _ _ _ _ _ _ _ _ _ _ ∧ _ ∧ _ from by assumption).2.2.2.2.2.2.2.1 hb) (Kd.C_below (show _ ∧ _ ∧ _ ∧ _ ∧ _ ∧ _ ∧ Pgs w _ g1 g2 _ _ _ _ _ _ _ _ _ _ _ _ _ _ ∧ _ ∧ _ from by assumption).2.2.2.2.2.2.2.2 hb)); clear hb)
    | (go_at_call 39; (with_reducible refine (bitmap_Check.calls k a A1 c1 l1 A2 c2 l2 x3 _ ?s0 Hc1.out ?s1 Hc2.out H6.out).mono ?_); (case s0 => exact (Kd.C_below Hr1.out (show _ ∧ _ ∧ _ ∧ _ ∧ _ ∧ _ ∧ Pgs w _ g1 g2 _ _ _ _ _ _ _ _ _ _ _ _ _ _ ∧ _ ∧ _ from by assumption).2.2.2.2.2.2.1.bl)); (case s1 => exact (Kd.C_below Hr2.out (show _ ∧ _ ∧ _ ∧ _ ∧ _ ∧ _ ∧ Pgs w _ g1 g2 _ _ _ _ _ _ _ _ _ _ _ _ _ _ ∧ _ ∧ _ from by assumption).2.2.2.2.2.2.1.bl)); rintro e wq ⟨rfl, hb⟩; have KEEP := Aside0.mk (Keep9 (Pgs.step (show _ ∧ _ ∧ _ ∧ _ ∧ _ ∧ _ ∧ Pgs w _ g1 g2 _ _ _ _ _ _ _ _ _ _ _ _ _ _ ∧ _ ∧ _ from by assumption).2.2.2.2.2.2.1 hb) (Kd.C_below (show _ ∧ _ ∧ _ ∧ _ ∧ _ ∧ _ ∧ Pgs w _ g1 g2 _ _ _ _ _ _ _ _ _ _ _ _ _ _ ∧ _ ∧ _ from by assumption).2.2.2.2.2.2.2.1 hb) (Kd.C_below (show _ ∧ _ ∧ _ ∧ _ ∧ _ ∧ _ ∧ Pgs w _ g1 g2 _ _ _ _ _ _ _ _ _ _ _ _ _ _ ∧ _ ∧ _ from by assumption).2.2.2.2.2.2.2.2 hb)); clear hb)
    | (go_at_call 40; (with_reducible refine (dioramaref19_Check.calls k a A1 c1 l1 A2 c2 l2 x3 _ ?s0 Hc1.out ?s1 Hc2.out H7.out).mono ?_); (case s0 => exact (Kd.C_below Hr1.out (show _ ∧ _ ∧ _ ∧ _ ∧ _ ∧ _ ∧ Pgs w _ g1 g2 _ _ _ _ _ _ _ _ _ _ _ _ _ _ ∧ _ ∧ _ from by assumption).2.2.2.2.2.2.1.bl)); (case s1 => exact (Kd.C_below Hr2.out (show _ ∧ _ ∧ _ ∧ _ ∧ _ ∧ _ ∧ Pgs w _ g1 g2 _ _ _ _ _ _ _ _ _ _ _ _ _ _ ∧ _ ∧ _ from by assumption).2.2.2.2.2.2.1.bl)); rintro e wq ⟨rfl, hb⟩; have KEEP := Aside0.mk (Keep9 (Pgs.step (show _ ∧ _ ∧ _ ∧ _ ∧ _ ∧ _ ∧ Pgs w _ g1 g2 _ _ _ _ _ _ _ _ _ _ _ _ _ _ ∧ _ ∧ _ from by assumption).2.2.2.2.2.2.1 hb) (Kd.C_below (show _ ∧ _ ∧ _ ∧ _ ∧ _ ∧ _ ∧ Pgs w _ g1 g2 _ _ _ _ _ _ _ _ _ _ _ _ _ _ ∧ _ ∧ _ from by assumption).2.2.2.2.2.2.2.1 hb) (Kd.C_below (show _ ∧ _ ∧ _ ∧ _ ∧ _ ∧ _ ∧ Pgs w _ g1 g2 _ _ _ _ _ _ _ _ _ _ _ _ _ _ ∧ _ ∧ _ from by assumption).2.2.2.2.2.2.2.2 hb)); clear hb)
    | (go_at_call 41; (with_reducible refine (bitmap_Same.calls k a A1 c1 l1 A2 c2 l2 b B1 d1 m1 B2 d2 m2 x4 _ ?s0 Hc1.out ?s1 Hc2.out ?s2 Hd1.out ?s3 Hd2.out H8.out).mono ?_); (case s0 => exact (Kd.C_below Hr1.out (show _ ∧ _ ∧ _ ∧ _ ∧ _ ∧ _ ∧ Pgs w _ g1 g2 _ _ _ _ _ _ _ _ _ _ _ _ _ _ ∧ _ ∧ _ from by assumption).2.2.2.2.2.2.1.bl)); (case s1 => exact (Kd.C_below Hr2.out (show _ ∧ _ ∧ _ ∧ _ ∧ _ ∧ _ ∧ Pgs w _ g1 g2 _ _ _ _ _ _ _ _ _ _ _ _ _ _ ∧ _ ∧ _ from by assumption).2.2.2.2.2.2.1.bl)); (case s2 => exact (Kd.C_below Hs1.out (show _ ∧ _ ∧ _ ∧ _ ∧ _ ∧ _ ∧ Pgs w _ g1 g2 _ _ _ _ _ _ _ _ _ _ _ _ _ _ ∧ _ ∧ _ from by assumption).2.2.2.2.2.2.1.bl)); (case s3 => exact (Kd.C_below Hs2.out (show _ ∧ _ ∧ _ ∧ _ ∧ _ ∧ _ ∧ Pgs w _ g1 g2 _ _ _ _ _ _ _ _ _ _ _ _ _ _ ∧ _ ∧ _ from by assumption).2.2.2.2.2.2.1.bl)); rintro e wq ⟨rfl, hb⟩; have KEEP := Aside0.mk (Keep9 (Pgs.step (show _ ∧ _ ∧ _ ∧ _ ∧ _ ∧ _ ∧ Pgs w _ g1 g2 _ _ _ _ _ _ _ _ _ _ _ _ _ _ ∧ _ ∧ _ from by assumption).2.2.2.2.2.2.1 hb) (Kd.C_below (show _ ∧ _ ∧ _ ∧ _ ∧ _ ∧ _ ∧ Pgs w _ g1 g2 _ _ _ _ _ _ _ _ _ _ _ _ _ _ ∧ _ ∧ _ from by assumption).2.2.2.2.2.2.2.1 hb) (Kd.C_below (show _ ∧ _ ∧ _ ∧ _ ∧ _ ∧ _ ∧ Pgs w _ g1 g2 _ _ _ _ _ _ _ _ _ _ _ _ _ _ ∧ _ ∧ _ from by assumption).2.2.2.2.2.2.2.2 hb)); clear hb)
    | (go_at_call 41; (with_reducible refine (bitmap_Same.calls k a A1 c1 l1 A2 c2 l2 a A1 c1 l1 A2 c2 l2 true _ ?s0 Hc1.out ?s1 Hc2.out ?s2 Hc1.out ?s3 Hc2.out H10.out).mono ?_); (case s0 => exact (Kd.C_below Hr1.out (show _ ∧ _ ∧ _ ∧ _ ∧ _ ∧ _ ∧ Pgs w _ g1 g2 _ _ _ _ _ _ _ _ _ _ _ _ _ _ ∧ _ ∧ _ from by assumption).2.2.2.2.2.2.1.bl)); (case s1 => exact (Kd.C_below Hr2.out (show _ ∧ _ ∧ _ ∧ _ ∧ _ ∧ _ ∧ Pgs w _ g1 g2 _ _ _ _ _ _ _ _ _ _ _ _ _ _ ∧ _ ∧ _ from by assumption).2.2.2.2.2.2.1.bl)); (case s2 => exact (Kd.C_below Hr1.out (show _ ∧ _ ∧ _ ∧ _ ∧ _ ∧ _ ∧ Pgs w _ g1 g2 _ _ _ _ _ _ _ _ _ _ _ _ _ _ ∧ _ ∧ _ from by assumption).2.2.2.2.2.2.1.bl)); (case s3 => exact (Kd.C_below Hr2.out (show _ ∧ _ ∧ _ ∧ _ ∧ _ ∧ _ ∧ Pgs w _ g1 g2 _ _ _ _ _ _ _ _ _ _ _ _ _ _ ∧ _ ∧ _ from by assumption).2.2.2.2.2.2.1.bl)); rintro e wq ⟨rfl, hb⟩; have KEEP := Aside0.mk (Keep9 (Pgs.step (show _ ∧ _ ∧ _ ∧ _ ∧ _ ∧ _ ∧ Pgs w _ g1 g2 _ _ _ _ _ _ _ _ _ _ _ _ _ _ ∧ _ ∧ _ from by assumption).2.2.2.2.2.2.1 hb) (Kd.C_below (show _ ∧ _ ∧ _ ∧ _ ∧ _ ∧ _ ∧ Pgs w _ g1 g2 _ _ _ _ _ _ _ _ _ _ _ _ _ _ ∧ _ ∧ _ from by assumption).2.2.2.2.2.2.2.1 hb) (Kd.C_below (show _ ∧ _ ∧ _ ∧ _ ∧ _ ∧ _ ∧ Pgs w _ g1 g2 _ _ _ _ _ _ _ _ _ _ _ _ _ _ ∧ _ ∧ _ from by assumption).2.2.2.2.2.2.2.2 hb)); clear hb)
    | (go_at_call 28; (with_reducible refine (dioramaref00_EqPage.calls k a A1 c1 l1 A2 c2 l2 b B1 d1 m1 B2 d2 m2 x4 _ ?s0 Hc1.out ?s1 Hc2.out ?s2 Hd1.out ?s3 Hd2.out H9.out).mono ?_); (case s0 => exact (Kd.C_below Hr1.out (show _ ∧ _ ∧ _ ∧ _ ∧ _ ∧ _ ∧ Pgs w _ g1 g2 _ _ _ _ _ _ _ _ _ _ _ _ _ _ ∧ _ ∧ _ from by assumption).2.2.2.2.2.2.1.bl)); (case s1 => exact (Kd.C_below Hr2.out (show _ ∧ _ ∧ _ ∧ _ ∧ _ ∧ _ ∧ Pgs w _ g1 g2 _ _ _ _ _ _ _ _ _ _ _ _ _ _ ∧ _ ∧ _ from by assumption).2.2.2.2.2.2.1.bl)); (case s2 => exact (Kd.C_below Hs1.out (show _ ∧ _ ∧ _ ∧ _ ∧ _ ∧ _ ∧ Pgs w _ g1 g2 _ _ _ _ _ _ _ _ _ _ _ _ _ _ ∧ _ ∧ _ from by assumption).2.2.2.2.2.2.1.bl)); (case s3 => exact (Kd.C_below Hs2.out (show _ ∧ _ ∧ _ ∧ _ ∧ _ ∧ _ ∧ Pgs w _ g1 g2 _ _ _ _ _ _ _ _ _ _ _ _ _ _ ∧ _ ∧ _ from by assumption).2.2.2.2.2.2.1.bl)); rintro e wq ⟨rfl, hb⟩; have KEEP := Aside0.mk (Keep9 (Pgs.step (show _ ∧ _ ∧ _ ∧ _ ∧ _ ∧ _ ∧ Pgs w _ g1 g2 _ _ _ _ _ _ _ _ _ _ _ _ _ _ ∧ _ ∧ _ from by assumption).2.2.2.2.2.2.1 hb) (Kd.C_below (show _ ∧ _ ∧ _ ∧ _ ∧ _ ∧ _ ∧ Pgs w _ g1 g2 _ _ _ _ _ _ _ _ _ _ _ _ _ _ ∧ _ ∧ _ from by assumption).2.2.2.2.2.2.2.1 hb) (Kd.C_below (show _ ∧ _ ∧ _ ∧ _ ∧ _ ∧ _ ∧ Pgs w _ g1 g2 _ _ _ _ _ _ _ _ _ _ _ _ _ _ ∧ _ ∧ _ from by assumption).2.2.2.2.2.2.2.2 hb)); clear hb))
  have P7 := Aside0.mk (show _ ∧ _ ∧ _ ∧ _ ∧ _ ∧ _ ∧ Pgs w _ g1 g2 _ _ _ _ _ _ _ _ _ _ _ _ _ _ ∧ _ ∧ _ from by assumption).2.2.2.2.2.2.1
  have Rb7 := Aside0.mk (show _ ∧ _ ∧ _ ∧ _ ∧ _ ∧ _ ∧ Pgs w _ g1 g2 _ _ _ _ _ _ _ _ _ _ _ _ _ _ ∧ _ ∧ _ from by assumption).2.2.2.2.2.2.2.1
  clear KEEP hE hE2 hE3 hE4
  generalize wq = w7 at P7 Rb7 ⊢
  by_cases hx : x2 = 0
  · subst hx
    go_wp2_with fail
    refine (bitmap_Decode.calls k Ab cb x1 a l1 l2 0 w7 Rb7.out Qb.out (H11.out (by trivial))).mono ?_
    rintro e w8 ⟨v1, v2, rfl, s1, s2, hb⟩
    obtain ⟨Ae, ce, rfl⟩ := Kd.R_slice s1
    obtain ⟨Af, cf, rfl⟩ := Kd.S_slice s2
    have Qe := Aside0.mk (Kd.R_reads' s1).2.1
    have Qf := Aside0.mk (Kd.S_reads' s2).2.1
    have P8 := Aside0.mk (P7.out.step hb)
    obtain ⟨w9, hw9⟩ : ∃ wz, w8.alloc (.cells #[.bool false, .slice none 0 0, .slice none 0 0] 51) = wz := ⟨_, rfl⟩
    obtain ⟨g3, hg3⟩ : ∃ rz, w8.heap.size = rz := ⟨_, rfl⟩
    have hb9 : Below w8.heap.size w8 w9 := by rw [← hw9]; exact below_alloc (Below.refl _ _) _
    have P9 := Aside0.mk (P8.out.step hb9)
    have K9 : Aside0 (w9.heap[g3]? = some (.cells #[.bool false, .slice none 0 0, .slice none 0 0] 51 (0, 0))) := ⟨by rw [← hw9, ← hg3]; exact blk_new w8 _⟩
    have GE3 : Aside0 (w.heap.size ≤ g3 ∧ g1 ≠ g3 ∧ g2 ≠ g3) := ⟨by rw [← hg3]; exact ⟨P8.out.bl.size, Nat.ne_of_lt (blk_lt P8.out.k1), Nat.ne_of_lt (blk_lt P8.out.k2)⟩⟩
    have T1 := Aside0.mk (Kd.R_types (Kd.R_below s1 hb9) K9.out (by decide))
    have T2 := Aside0.mk (Kd.S_types (Kd.S_below s2 hb9) K9.out (by decide))
    obtain ⟨hz0, hz1, hz2, hf0, hf1, hf2⟩ := bcells3 K9.out
    obtain ⟨w10, hw10⟩ : ∃ wz, (((w9.setCell ⟨g3, 0, none⟩ (.bool a)).setCell ⟨g3, 1, none⟩ (.slice Ae l1.length ce)).setCell ⟨g3, 2, none⟩ (.slice Af l2.length cf)) = wz := ⟨_, rfl⟩
    have P10 : Aside0 (Pgs w w10 g1 g2 a A1 c1 l1 A2 c2 l2 b B1 d1 m1 B2 d2 m2) := ⟨by
      rw [← hw10]
      exact ⟨below_set (below_set (below_set P9.out.bl GE3.out.1) GE3.out.1) GE3.out.1, blk_far (blk_far (blk_far P9.out.k1 GE3.out.2.1 _) GE3.out.2.1 _) GE3.out.2.1 _, blk_far (blk_far (blk_far P9.out.k2 GE3.out.2.2 _) GE3.out.2.2 _) GE3.out.2.2 _⟩⟩
    have K10 : Aside0 (w10.heap[g3]? = some (.cells #[.bool a, .slice Ae l1.length ce, .slice Af l2.length cf] 51 (0, 0))) := ⟨by rw [← hw10]; exact blk_put (blk_put (blk_put K9.out 0 _ rfl) 1 _ rfl) 2 _ rfl⟩
    have Re : Aside0 (Kd.C (Kd.int .i64) w10 Ae l1.length l1) := ⟨by
      rw [← hw10]
      exact (Kd.R_reads' (Kd.R_far (p := ⟨g3, 2, none⟩) (Kd.R_far (p := ⟨g3, 1, none⟩) (Kd.R_far (p := ⟨g3, 0, none⟩) T1.out (fun _ hk => hk.2) _) (fun _ hk => hk.2) _) (fun _ hk => hk.2) _)).2.2⟩
    have Rf : Aside0 (Kd.C k91 w10 Af l2.length l2) := ⟨by
      rw [← hw10]
      exact (Kd.S_reads' (Kd.S_far (p := ⟨g3, 2, none⟩) (Kd.S_far (p := ⟨g3, 1, none⟩) (Kd.S_far (p := ⟨g3, 0, none⟩) T2.out (fun _ hk => hk.2) _) (fun _ hk => hk.2) _) (fun _ hk => hk.2) _)).2.2⟩
    clear s1 s2 hb hb9
    obtain ⟨z0, z1, z2, y0, y1, y2, _⟩ := P10.out.all
    obtain ⟨q0, q1, q2, qf0, qf1, qf2⟩ := bcells3 K10.out
    go_wp2_with fail
    refine (dioramaref00_EqPage.calls k a Ae ce l1 Af cf l2 a A1 c1 l1 A2 c2 l2 true w10 Re.out Qe.out Rf.out Qf.out (Kd.C_below Hr1.out P10.out.bl) Hc1.out (Kd.C_below Hr2.out P10.out.bl) Hc2.out H12.out).mono ?_
    rintro e w11 ⟨rfl, hb⟩
    have P11 := Aside0.mk (P10.out.step hb)
    clear hb hw9 hg3 hw10 hz0 hz1 hz2 hf0 hf1 hf2 z0 z1 z2 y0 y1 y2 q0 q1 q2 qf0 qf1 qf2
    go_wp2_with fail
    refine (dioramalaw19_awake.calls k true w11 H13.out).mono ?_
    rintro e w12 ⟨rfl, hb⟩
    have P12 := Aside0.mk (P11.out.step hb)
    go_wp2_with fail
    go_ret
    exact ⟨rfl, P12.out.bl⟩
  · have hn : (x2 == 0) = false := by simpa using hx
    go_wp2_with fail
    refine (dioramalaw19_awake.calls k true w7 H13.out).mono ?_
    rintro e w12 ⟨rfl, hb⟩
    have P12 := Aside0.mk (P7.out.step hb)
    go_wp2_with fail
    go_ret
    exact ⟨rfl, P12.out.bl⟩
/-- What the statement asks, said of both sides' answers. -/
def dioramalaw19_BitmapPages.f (k : Nat) (a : Bool) (l1 : List Int) (l2 : List (S91)) (b : Bool) (m1 : List Int) (m2 : List (S91)) : Option (Bool) :=
  (dioramalaw19_small.f k a l1 l2).bind fun p => if p = false then some true else (dioramalaw19_small.f k b m1 m2).bind fun q => if q = false then some true else
  (bitmap_Encode.f k a l1 l2).bind fun x => (dioramaref19_Encode.f k a l1 l2).bind fun x' => (dioramaref00_EqBytes.f k x.1 x.1).bind fun t => (bitmap_Check.f k a l1 l2).bind fun c => (dioramaref19_Check.f k a l1 l2).bind fun c' =>
  (bitmap_Same.f k a l1 l2 b m1 m2).bind fun s => (dioramaref00_EqPage.f k a l1 l2 b m1 m2).bind fun s' => (bitmap_Same.f k a l1 l2 a l1 l2).bind fun u => (dioramaref00_EqPage.f k a l1 l2 a l1 l2).bind fun z => (dioramalaw19_awake.f k).bind fun v =>
  if x = x' ∧ t = true ∧ c = c' ∧ s = s' ∧ u = true ∧ z = true ∧ v = true then (if x.2 = 0 then (bitmap_Decode.f k x.1).bind fun y => if y.1 = a ∧ y.2.1 = l1 ∧ patEq y.2.2.1 l2 = true ∧ y.2.2.2 = 0 then some true else none else some true) else none
theorem dioramalaw19_BitmapPages.calls (k : Nat) (a : Bool) (A1 : Option Addr) (c1 : Nat) (l1 : List Int) (A2 : Option Addr) (c2 : Nat) (l2 : List S91) (b : Bool) (B1 : Option Addr) (d1 : Nat) (m1 : List Int) (B2 : Option Addr) (d2 : Nat) (m2 : List S91) (r : Bool) (w : World)
    (hr1 : Kd.C (Kd.int .i64) w A1 l1.length l1) (hc1 : l1.length ≤ c1) (hr2 : Kd.C k91 w A2 l2.length l2) (hc2 : l2.length ≤ c2) (hr1_1 : Kd.C (Kd.int .i64) w B1 m1.length m1) (hc1_1 : m1.length ≤ d1) (hr1_2 : Kd.C k91 w B2 m2.length m2) (hc1_2 : m2.length ≤ d2) (h : dioramalaw19_BitmapPages.f k a l1 l2 b m1 m2 = some r) :
    Calls Try.prog 9 #[.agg #[.bool a, .slice A1 l1.length c1, .slice A2 l2.length c2], .agg #[.bool b, .slice B1 m1.length d1, .slice B2 m2.length d2]] w fun e w' => e = .returned (.bool r) ∧ Below w.heap.size w w' := by
  unfold dioramalaw19_BitmapPages.f at h
  obtain ⟨p, h1, q1⟩ := Option.bind_eq_some_iff.mp h
  cases p with
  | false =>
    rw [if_pos rfl] at q1
    obtain rfl := Option.some.inj q1
    exact pages_not k a A1 c1 l1 A2 c2 l2 b B1 d1 m1 B2 d2 m2 hr1 hc1 hr2 hc2 h1
  | true =>
    rw [if_neg (by simp)] at q1
    obtain ⟨q, h2, q2⟩ := Option.bind_eq_some_iff.mp q1
    cases q with
    | false =>
      rw [if_pos rfl] at q2
      obtain rfl := Option.some.inj q2
      exact pages_not2 k a A1 c1 l1 A2 c2 l2 b B1 d1 m1 B2 d2 m2 hr1 hc1 hr2 hc2 hr1_1 hc1_1 hr1_2 hc1_2 h1 h2
    | true =>
      rw [if_neg (by simp)] at q2
      obtain ⟨⟨x1, x2⟩, h3, q3⟩ := Option.bind_eq_some_iff.mp q2
      obtain ⟨x', h4, q4⟩ := Option.bind_eq_some_iff.mp q3
      obtain ⟨t, h5, q5⟩ := Option.bind_eq_some_iff.mp q4
      obtain ⟨c, h6, q6⟩ := Option.bind_eq_some_iff.mp q5
      obtain ⟨c', h7, q7⟩ := Option.bind_eq_some_iff.mp q6
      obtain ⟨s, h8, q8⟩ := Option.bind_eq_some_iff.mp q7
      obtain ⟨s', h9, q9⟩ := Option.bind_eq_some_iff.mp q8
      obtain ⟨u, h10, q10⟩ := Option.bind_eq_some_iff.mp q9
      obtain ⟨z, h11, q11⟩ := Option.bind_eq_some_iff.mp q10
      obtain ⟨v, h12, q12⟩ := Option.bind_eq_some_iff.mp q11
      by_cases hc : (x1, x2) = x' ∧ t = true ∧ c = c' ∧ s = s' ∧ u = true ∧ z = true ∧ v = true
      · rw [if_pos hc] at q12
        obtain ⟨rfl, rfl, rfl, rfl, rfl, rfl, rfl⟩ := hc
        by_cases hx : x2 = 0
        · rw [if_pos hx] at q12
          obtain ⟨⟨y1, y2, y3, y4⟩, h13, q13⟩ := Option.bind_eq_some_iff.mp q12
          by_cases hy : y1 = a ∧ y2 = l1 ∧ patEq y3 l2 = true ∧ y4 = 0
          · rw [if_pos hy] at q13
            obtain rfl := Option.some.inj q13
            obtain ⟨e1, e2, hp, e4⟩ := hy
            rw [e1, e2, patEq_eq _ _ hp, e4] at h13
            exact pages_walk k a A1 c1 l1 A2 c2 l2 b B1 d1 m1 B2 d2 m2 hr1 hc1 hr2 hc2 hr1_1 hc1_1 hr1_2 hc1_2 x1 x2 c s h1 h2 h3 h4 h5 h6 h7 h8 h9 h10 (fun _ => h13) h11 h12
          · rw [if_neg hy] at q13; cases q13
        · rw [if_neg hx] at q12
          obtain rfl := Option.some.inj q12
          exact pages_walk k a A1 c1 l1 A2 c2 l2 b B1 d1 m1 B2 d2 m2 hr1 hc1 hr2 hc2 hr1_1 hc1_1 hr1_2 hc1_2 x1 x2 c s h1 h2 h3 h4 h5 h6 h7 h8 h9 h10 (fun e => absurd e hx) h11 h12
      · rw [if_neg hc] at q12; cases q12
end Go.Proofs.Ytaebgjdaoloceaa.QBmpP
