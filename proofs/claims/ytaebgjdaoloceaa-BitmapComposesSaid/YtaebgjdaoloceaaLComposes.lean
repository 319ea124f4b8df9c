/- A lemma file: the law BitmapComposes, walked. No condition. -/
import Derived.Test.YtaebgjdaoloceaaQBmpCx4
import Derived.Test.YtaebgjdaoloceaaQBmpCx7
import Derived.Test.YtaebgjdaoloceaaQBmpCx7
import Derived.Test.YtaebgjdaoloceaaQBmpCx7
import Derived.Test.YtaebgjdaoloceaaQBmpCx2
import Derived.Test.YtaebgjdaoloceaaQBmpCx2
import Derived.Deep.RegionHeld3
namespace Go.Proofs.Ytaebgjdaoloceaa.QBmpC
open Go.RowKit Go.Proofs.YtaebgjdaoloceaaW.PrintWords Go.Proofs.YtaebgjdaoloceaaW.PrintLast Go.Proofs.YtaebgjdaoloceaaW.PrintMore Go.Proofs.YtaebgjdaoloceaaV
set_option linter.unusedVariables false
set_option linter.unusedSimpArgs false
/-- Two variables in memory, and their rows. -/
structure Two (w0 w : World) (g1 g2 : Nat) (p q : Int) (A B : Option Addr) (ca cb : Nat) (la lb : List Int) (p' q' : Int) (A' B' : Option Addr) (ca' cb' : Nat) (la' lb' : List Int) : Prop where
  b : Below w0.heap.size w0 w
  k1 : w.heap[g1]? = some (.cells #[.int .i64 p, .int .i64 q, .slice A la.length ca, .slice B lb.length cb] 38 (0, 0))
  k2 : w.heap[g2]? = some (.cells #[.int .i64 p', .int .i64 q', .slice A' la'.length ca', .slice B' lb'.length cb'] 41 (0, 0))
  a : Kd.C (Kd.int .i64) w A la.length la
  a' : Kd.C (Kd.int .i64) w A' la'.length la'
  d : Kd.C (Kd.int .i64) w B lb.length lb
  d' : Kd.C (Kd.int .i64) w B' lb'.length lb'
theorem Two.step {w0 w w' : World} {g1 g2 : Nat} {p q : Int} {A B : Option Addr} {ca cb : Nat} {la lb : List Int} {p' q' : Int} {A' B' : Option Addr} {ca' cb' : Nat} {la' lb' : List Int} (h : Two w0 w g1 g2 p q A B ca cb la lb p' q' A' B' ca' cb' la' lb') (hb : Below w.heap.size w w') : Two w0 w' g1 g2 p q A B ca cb la lb p' q' A' B' ca' cb' la' lb' :=
  ⟨below_step h.b hb, blk_below h.k1 hb, blk_below h.k2 hb, Kd.C_below h.a hb, Kd.C_below h.a' hb, Kd.C_below h.d hb, Kd.C_below h.d' hb⟩
theorem Two.drew {w0 w : World} {g1 g2 : Nat} {p q : Int} {A B : Option Addr} {ca cb : Nat} {la lb : List Int} {p' q' : Int} {A' B' : Option Addr} {ca' cb' : Nat} {la' lb' : List Int} (h : Two w0 w g1 g2 p q A B ca cb la lb p' q' A' B' ca' cb' la' lb') : Two w0 w.drew g1 g2 p q A B ca cb la lb p' q' A' B' ca' cb' la' lb' :=
  h.step (below_drew (Below.refl _ _))
theorem Two.all {w0 w : World} {g1 g2 : Nat} {p q : Int} {A B : Option Addr} {ca cb : Nat} {la lb : List Int} {p' q' : Int} {A' B' : Option Addr} {ca' cb' : Nat} {la' lb' : List Int} (h : Two w0 w g1 g2 p q A B ca cb la lb p' q' A' B' ca' cb' la' lb') :
    w.cell? ⟨g1, 0, none⟩ = some (.int .i64 p) ∧ w.cell? ⟨g1, 1, none⟩ = some (.int .i64 q) ∧ w.cell? ⟨g1, 2, none⟩ = some (.slice A la.length ca) ∧ w.cell? ⟨g1, 3, none⟩ = some (.slice B lb.length cb) ∧
    w.cell? ⟨g2, 0, none⟩ = some (.int .i64 p') ∧ w.cell? ⟨g2, 1, none⟩ = some (.int .i64 q') ∧ w.cell? ⟨g2, 2, none⟩ = some (.slice A' la'.length ca') ∧ w.cell? ⟨g2, 3, none⟩ = some (.slice B' lb'.length cb') ∧ Two w0 w g1 g2 p q A B ca cb la lb p' q' A' B' ca' cb' la' lb' :=
  ⟨(blk_cell h.k1 0).trans rfl, (blk_cell h.k1 1).trans rfl, (blk_cell h.k1 2).trans rfl, (blk_cell h.k1 3).trans rfl, (blk_cell h.k2 0).trans rfl, (blk_cell h.k2 1).trans rfl, (blk_cell h.k2 2).trans rfl, (blk_cell h.k2 3).trans rfl, h⟩
set_option maxRecDepth 100000 in
set_option maxHeartbeats 2000000 in
theorem composes_walk {w : World} (k : Nat) (A0 : Option Addr) (c0 : Nat) (l : List S51) (a1 a2 : Int) (hr0 : Kd.C k51 w A0 l.length l) (hc0 : l.length ≤ c0)
    (h1 : dioramalaw19_pages.f k l = some true) (x1 x2 : Int) (x3 x4 : List Int) (x5 : Int) (h2 : bitmap_Compose.f k l a1 a2 = some (x1, x2, x3, x4, x5)) (h3 : dioramaref19_Compose.f k l a1 a2 = some (x1, x2, x3, x4, x5)) (h4 : dioramalaw19_same.f k x1 x2 x3 x4 x1 x2 x3 x4 = some true)
    (y1 y2 : Int) (y3 y4 : List Int) (y5 : Int) (h5 : bitmap_Empty.f k a1 a2 = some (y1, y2, y3, y4, y5)) (h6 : dioramaref19_Empty.f k a1 a2 = some (y1, y2, y3, y4, y5)) (h7 : dioramalaw19_same.f k y1 y2 y3 y4 y1 y2 y3 y4 = some true) (h8 : dioramalaw19_awake.f k = some true) :
    Calls Try.prog 4 #[.slice A0 l.length c0, .int .i64 a1, .int .i64 a2] w fun e w' => e = .returned (.bool true) ∧ Below w.heap.size w w' := by
  have hu := Try.underlying38
  have hu2 := Try.underlying41
  have HR := Aside0.mk hr0
  have HC := Aside0.mk hc0
  have H1 := Aside0.mk h1
  have H2 := Aside0.mk h2
  have H3 := Aside0.mk h3
  have H4 := Aside0.mk h4
  have H5 := Aside0.mk h5
  have H6 := Aside0.mk h6
  have H7 := Aside0.mk h7
  have H8 := Aside0.mk h8
  clear hr0 hc0 h1 h2 h3 h4 h5 h6 h7 h8
  go_enter Try.func4, Try.ntmps4
  go_wp2_with fail
  refine (dioramalaw19_pages.calls k A0 c0 l true w HR.out HC.out H1.out).mono ?_
  rintro e w1 ⟨rfl, hb⟩
  have B1 := Aside0.mk hb
  clear hb
  go_wp2_with fail
  refine (bitmap_Compose.calls k A0 c0 l a1 a2 x1 x2 x3 x4 x5 w1 (Kd.C_below HR.out B1.out) HC.out H2.out).mono ?_
  rintro e w2 ⟨v2, v3, rfl, s2, s3, hb⟩
  obtain ⟨Aa, ca, rfl⟩ := Kd.R_slice s2
  obtain ⟨Ab, cb, rfl⟩ := Kd.R_slice s3
  have Ra := Aside0.mk (Kd.R_reads' s2).2.1
  have Rb := Aside0.mk (Kd.R_reads' s3).2.1
  have Qa := Aside0.mk (Kd.R_reads' s2).2.2
  have Qb := Aside0.mk (Kd.R_reads' s3).2.2
  have B2 := Aside0.mk (below_step B1.out hb)
  clear s2 s3 hb
  obtain ⟨w3, hw1⟩ : ∃ wz, w2.alloc (.cells #[.int .i64 x1, .int .i64 x2, .slice Aa x3.length ca, .slice Ab x4.length cb] 38) = wz := ⟨_, rfl⟩
  obtain ⟨g1, hg1⟩ : ∃ rz, w2.heap.size = rz := ⟨_, rfl⟩
  have B3 : Aside0 (Below w.heap.size w w3) := ⟨by rw [← hw1]; exact below_alloc B2.out _⟩
  have G1 : Aside0 (w3.heap[g1]? = some (.cells #[.int .i64 x1, .int .i64 x2, .slice Aa x3.length ca, .slice Ab x4.length cb] 38 (0, 0))) := ⟨by rw [← hw1, ← hg1]; exact blk_new w2 _⟩
  have Ra3 : Aside0 (Kd.C (Kd.int .i64) w3 Aa x3.length x3) := ⟨by rw [← hw1]; exact Kd.C_alloc Qa.out _⟩
  have Rb3 : Aside0 (Kd.C (Kd.int .i64) w3 Ab x4.length x4) := ⟨by rw [← hw1]; exact Kd.C_alloc Qb.out _⟩
  have GE1 : Aside0 (w.heap.size ≤ g1) := ⟨by rw [← hg1]; exact B2.out.size⟩
  go_wp2_with fail
  clear hw1 hg1 Qa Qb B2
  refine (dioramaref19_Compose.calls k A0 c0 l a1 a2 x1 x2 x3 x4 x5 w3 (Kd.C_below HR.out B3.out) HC.out H3.out).mono ?_
  rintro e w4 ⟨v4, v5, rfl, s4, s5, hb⟩
  obtain ⟨Ac, cc, rfl⟩ := Kd.R_slice s4
  obtain ⟨Ad, cd, rfl⟩ := Kd.R_slice s5
  have Rc := Aside0.mk (Kd.R_reads' s4).2.1
  have Rd := Aside0.mk (Kd.R_reads' s5).2.1
  have Qc := Aside0.mk (Kd.R_reads' s4).2.2
  have Qd := Aside0.mk (Kd.R_reads' s5).2.2
  have B4 := Aside0.mk (below_step B3.out hb)
  have GLT : Aside0 (g1 < w4.heap.size) := ⟨blk_lt (blk_below G1.out hb)⟩
  obtain ⟨w5, hw1⟩ : ∃ wz, w4.alloc (.cells #[.int .i64 x1, .int .i64 x2, .slice Ac x3.length cc, .slice Ad x4.length cd] 41) = wz := ⟨_, rfl⟩
  obtain ⟨g2, hg2⟩ : ∃ rz, w4.heap.size = rz := ⟨_, rfl⟩
  have T5 : Aside0 (Two w w5 g1 g2 x1 x2 Aa Ab ca cb x3 x4 x1 x2 Ac Ad cc cd x3 x4) := ⟨by
    rw [← hw1, ← hg2]
    exact ⟨below_alloc B4.out _, blk_alloc (blk_below G1.out hb) _, blk_new w4 _, Kd.C_alloc (Kd.C_below Ra3.out hb) _, Kd.C_alloc Qc.out _, Kd.C_alloc (Kd.C_below Rb3.out hb) _, Kd.C_alloc Qd.out _⟩⟩
  have GE2 : Aside0 (w.heap.size ≤ g2 ∧ g1 ≠ g2) := ⟨by rw [← hg2]; exact ⟨B4.out.size, Nat.ne_of_lt GLT.out⟩⟩
  clear s4 s5 hb Qc Qd B4 GLT Ra3 Rb3 G1 B3
  go_wp2_with fail
  clear hw1 hg2
  have KEEP := Aside0.mk (Two.all (Two.drew T5.out))
  have hE : (x5 != x5) = false := by simp
  have hE2 : (x5 == x5) = true := by simp
  go_region_held3 (fun w' => w'.cell? ⟨g1, 0, none⟩ = some (.int .i64 x1) ∧ w'.cell? ⟨g1, 1, none⟩ = some (.int .i64 x2) ∧ w'.cell? ⟨g1, 2, none⟩ = some (.slice Aa x3.length ca) ∧ w'.cell? ⟨g1, 3, none⟩ = some (.slice Ab x4.length cb) ∧ w'.cell? ⟨g2, 0, none⟩ = some (.int .i64 x1) ∧ w'.cell? ⟨g2, 1, none⟩ = some (.int .i64 x2) ∧ w'.cell? ⟨g2, 2, none⟩ = some (.slice Ac x3.length cc) ∧ w'.cell? ⟨g2, 3, none⟩ = some (.slice Ad x4.length cd) ∧ Two w w' g1 g2 x1 x2 Aa Ab ca cb x3 x4 x1 x2 Ac Ad cc cd x3 x4) (first | exact KEEP.out | go_keep) (first
    | (go_at_call 22; refine (dioramalaw19_ours.calls x1 x2 Aa ca x3 Ab cb x4 0 _ (show _ ∧ _ ∧ _ ∧ _ ∧ _ ∧ _ ∧ _ ∧ _ ∧ Two w _ g1 g2 _ _ _ _ _ _ _ _ _ _ _ _ _ _ _ _ from by assumption).2.2.2.2.2.2.2.2.a Ra.out (show _ ∧ _ ∧ _ ∧ _ ∧ _ ∧ _ ∧ _ ∧ _ ∧ Two w _ g1 g2 _ _ _ _ _ _ _ _ _ _ _ _ _ _ _ _ from by assumption).2.2.2.2.2.2.2.2.d Rb.out rfl).mono ?_; rintro e wq ⟨rfl, hb⟩; have KEEP := Aside0.mk (Two.all (Two.step (show _ ∧ _ ∧ _ ∧ _ ∧ _ ∧ _ ∧ _ ∧ _ ∧ Two w _ g1 g2 _ _ _ _ _ _ _ _ _ _ _ _ _ _ _ _ from by assumption).2.2.2.2.2.2.2.2 hb)); clear hb)
    | (go_at_call 21; refine (dioramalaw19_same.calls k x1 x2 Aa ca x3 Ab cb x4 x1 x2 Ac cc x3 Ad cd x4 true _ (show _ ∧ _ ∧ _ ∧ _ ∧ _ ∧ _ ∧ _ ∧ _ ∧ Two w _ g1 g2 _ _ _ _ _ _ _ _ _ _ _ _ _ _ _ _ from by assumption).2.2.2.2.2.2.2.2.a Ra.out (show _ ∧ _ ∧ _ ∧ _ ∧ _ ∧ _ ∧ _ ∧ _ ∧ Two w _ g1 g2 _ _ _ _ _ _ _ _ _ _ _ _ _ _ _ _ from by assumption).2.2.2.2.2.2.2.2.d Rb.out (show _ ∧ _ ∧ _ ∧ _ ∧ _ ∧ _ ∧ _ ∧ _ ∧ Two w _ g1 g2 _ _ _ _ _ _ _ _ _ _ _ _ _ _ _ _ from by assumption).2.2.2.2.2.2.2.2.a' Rc.out (show _ ∧ _ ∧ _ ∧ _ ∧ _ ∧ _ ∧ _ ∧ _ ∧ Two w _ g1 g2 _ _ _ _ _ _ _ _ _ _ _ _ _ _ _ _ from by assumption).2.2.2.2.2.2.2.2.d' Rd.out H4.out).mono ?_; rintro e wq ⟨rfl, hb⟩; have KEEP := Aside0.mk (Two.all (Two.step (show _ ∧ _ ∧ _ ∧ _ ∧ _ ∧ _ ∧ _ ∧ _ ∧ Two w _ g1 g2 _ _ _ _ _ _ _ _ _ _ _ _ _ _ _ _ from by assumption).2.2.2.2.2.2.2.2 hb)); clear hb))
  have T6 := Aside0.mk ((show _ ∧ _ ∧ _ ∧ _ ∧ _ ∧ _ ∧ _ ∧ _ ∧ Two w _ g1 g2 _ _ _ _ _ _ _ _ _ _ _ _ _ _ _ _ from by assumption).2.2.2.2.2.2.2.2)
  clear KEEP hE hE2
  generalize wq = w6 at T6 ⊢
  go_wp2_with fail
  refine (bitmap_Empty.calls k a1 a2 y1 y2 y3 y4 y5 w6 H5.out).mono ?_
  rintro e w7 ⟨v6, v7, rfl, s6, s7, hb⟩
  obtain ⟨Ae, ce, rfl⟩ := Kd.R_slice s6
  obtain ⟨Af, cf, rfl⟩ := Kd.R_slice s7
  have Re := Aside0.mk (Kd.R_reads' s6).2.1
  have Rf := Aside0.mk (Kd.R_reads' s7).2.1
  have T7 := Aside0.mk (T6.out.step hb)
  have Q6 := Aside0.mk (Kd.R_types s6 T7.out.k1 (by decide))
  have Q7 := Aside0.mk (Kd.R_types s7 T7.out.k1 (by decide))
  obtain ⟨hz0, hz1, hz2, hz3, hf0, hf1, hf2, hf3⟩ := bcells4 T7.out.k1
  clear s6 s7 hb T6
  obtain ⟨w8, hw8⟩ : ∃ wz, ((((w7.setCell ⟨g1, 0, none⟩ (.int .i64 y1)).setCell ⟨g1, 1, none⟩ (.int .i64 y2)).setCell ⟨g1, 2, none⟩ (.slice Ae y3.length ce)).setCell ⟨g1, 3, none⟩ (.slice Af y4.length cf)) = wz := ⟨_, rfl⟩
  have B8 : Aside0 (Below w.heap.size w w8) := ⟨by rw [← hw8]; exact below_set (below_set (below_set (below_set T7.out.b GE1.out) GE1.out) GE1.out) GE1.out⟩
  have K8 : Aside0 (w8.heap[g1]? = some (.cells #[.int .i64 y1, .int .i64 y2, .slice Ae y3.length ce, .slice Af y4.length cf] 38 (0, 0))) := ⟨by rw [← hw8]; exact blk_put (blk_put (blk_put (blk_put T7.out.k1 0 _ rfl) 1 _ rfl) 2 _ rfl) 3 _ rfl⟩
  have L8 : Aside0 (w8.heap[g2]? = some (.cells #[.int .i64 x1, .int .i64 x2, .slice Ac x3.length cc, .slice Ad x4.length cd] 41 (0, 0))) := ⟨by rw [← hw8]; exact blk_far (blk_far (blk_far (blk_far T7.out.k2 (Ne.symm GE2.out.2) _) (Ne.symm GE2.out.2) _) (Ne.symm GE2.out.2) _) (Ne.symm GE2.out.2) _⟩
  have Q8 : Aside0 (Kd.R (Kd.int .i64) 3 w8 w6.heap.size _ (.slice Ae y3.length ce) y3) := ⟨by rw [← hw8]; exact Kd.R_far (p := ⟨g1, 3, none⟩) (Kd.R_far (p := ⟨g1, 2, none⟩) (Kd.R_far (p := ⟨g1, 1, none⟩) (Kd.R_far (p := ⟨g1, 0, none⟩) (Q6.out) (fun _ hk => hk.2) _) (fun _ hk => hk.2) _) (fun _ hk => hk.2) _) (fun _ hk => hk.2) _⟩
  have Q9 : Aside0 (Kd.R (Kd.int .i64) 3 w8 w6.heap.size _ (.slice Af y4.length cf) y4) := ⟨by rw [← hw8]; exact Kd.R_far (p := ⟨g1, 3, none⟩) (Kd.R_far (p := ⟨g1, 2, none⟩) (Kd.R_far (p := ⟨g1, 1, none⟩) (Kd.R_far (p := ⟨g1, 0, none⟩) (Q7.out) (fun _ hk => hk.2) _) (fun _ hk => hk.2) _) (fun _ hk => hk.2) _) (fun _ hk => hk.2) _⟩
  go_wp2_with fail
  clear hw8 hz0 hz1 hz2 hz3 hf0 hf1 hf2 hf3 Q6 Q7 T7
  refine (dioramaref19_Empty.calls k a1 a2 y1 y2 y3 y4 y5 w8 H6.out).mono ?_
  rintro e w9 ⟨v8, v9, rfl, s6, s7, hb⟩
  obtain ⟨Ag, cg, rfl⟩ := Kd.R_slice s6
  obtain ⟨Ah, ch, rfl⟩ := Kd.R_slice s7
  have Rg := Aside0.mk (Kd.R_reads' s6).2.1
  have Rh := Aside0.mk (Kd.R_reads' s7).2.1
  have B9 := Aside0.mk (below_step B8.out hb)
  have K9 := Aside0.mk (blk_below K8.out hb)
  have L9 := Aside0.mk (blk_below L8.out hb)
  have Q10 := Aside0.mk (Kd.R_types s6 L9.out (by decide))
  have Q11 := Aside0.mk (Kd.R_types s7 L9.out (by decide))
  have Q12 := Aside0.mk (Kd.R_types (Kd.R_below Q8.out hb) L9.out (by decide))
  have Q13 := Aside0.mk (Kd.R_types (Kd.R_below Q9.out hb) L9.out (by decide))
  obtain ⟨hz0, hz1, hz2, hz3, hf0, hf1, hf2, hf3⟩ := bcells4 L9.out
  clear s6 s7 hb B8 K8 L8 Q8 Q9
  obtain ⟨w10, hw10⟩ : ∃ wz, ((((w9.setCell ⟨g2, 0, none⟩ (.int .i64 y1)).setCell ⟨g2, 1, none⟩ (.int .i64 y2)).setCell ⟨g2, 2, none⟩ (.slice Ag y3.length cg)).setCell ⟨g2, 3, none⟩ (.slice Ah y4.length ch)) = wz := ⟨_, rfl⟩
  have T10 : Aside0 (Two w w10 g1 g2 y1 y2 Ae Af ce cf y3 y4 y1 y2 Ag Ah cg ch y3 y4) := ⟨by
    rw [← hw10]
    exact ⟨below_set (below_set (below_set (below_set B9.out GE2.out.1) GE2.out.1) GE2.out.1) GE2.out.1,
      blk_far (blk_far (blk_far (blk_far K9.out GE2.out.2 _) GE2.out.2 _) GE2.out.2 _) GE2.out.2 _,
      blk_put (blk_put (blk_put (blk_put L9.out 0 _ rfl) 1 _ rfl) 2 _ rfl) 3 _ rfl,
      (Kd.R_reads' (Kd.R_far (p := ⟨g2, 3, none⟩) (Kd.R_far (p := ⟨g2, 2, none⟩) (Kd.R_far (p := ⟨g2, 1, none⟩) (Kd.R_far (p := ⟨g2, 0, none⟩) (Q12.out) (fun _ hk => hk.2) _) (fun _ hk => hk.2) _) (fun _ hk => hk.2) _) (fun _ hk => hk.2) _)).2.2, (Kd.R_reads' (Kd.R_far (p := ⟨g2, 3, none⟩) (Kd.R_far (p := ⟨g2, 2, none⟩) (Kd.R_far (p := ⟨g2, 1, none⟩) (Kd.R_far (p := ⟨g2, 0, none⟩) (Q10.out) (fun _ hk => hk.2) _) (fun _ hk => hk.2) _) (fun _ hk => hk.2) _) (fun _ hk => hk.2) _)).2.2, (Kd.R_reads' (Kd.R_far (p := ⟨g2, 3, none⟩) (Kd.R_far (p := ⟨g2, 2, none⟩) (Kd.R_far (p := ⟨g2, 1, none⟩) (Kd.R_far (p := ⟨g2, 0, none⟩) (Q13.out) (fun _ hk => hk.2) _) (fun _ hk => hk.2) _) (fun _ hk => hk.2) _) (fun _ hk => hk.2) _)).2.2, (Kd.R_reads' (Kd.R_far (p := ⟨g2, 3, none⟩) (Kd.R_far (p := ⟨g2, 2, none⟩) (Kd.R_far (p := ⟨g2, 1, none⟩) (Kd.R_far (p := ⟨g2, 0, none⟩) (Q11.out) (fun _ hk => hk.2) _) (fun _ hk => hk.2) _) (fun _ hk => hk.2) _) (fun _ hk => hk.2) _)).2.2⟩⟩
  go_wp2_with fail
  clear hw10 hz0 hz1 hz2 hz3 hf0 hf1 hf2 hf3 Q10 Q11 Q12 Q13 B9 K9 L9
  have KEEP := Aside0.mk (Two.all (Two.drew T10.out))
  have hE : (y5 != y5) = false := by simp
  have hE2 : (y5 == y5) = true := by simp
  go_region_held3 (fun w' => w'.cell? ⟨g1, 0, none⟩ = some (.int .i64 y1) ∧ w'.cell? ⟨g1, 1, none⟩ = some (.int .i64 y2) ∧ w'.cell? ⟨g1, 2, none⟩ = some (.slice Ae y3.length ce) ∧ w'.cell? ⟨g1, 3, none⟩ = some (.slice Af y4.length cf) ∧ w'.cell? ⟨g2, 0, none⟩ = some (.int .i64 y1) ∧ w'.cell? ⟨g2, 1, none⟩ = some (.int .i64 y2) ∧ w'.cell? ⟨g2, 2, none⟩ = some (.slice Ag y3.length cg) ∧ w'.cell? ⟨g2, 3, none⟩ = some (.slice Ah y4.length ch) ∧ Two w w' g1 g2 y1 y2 Ae Af ce cf y3 y4 y1 y2 Ag Ah cg ch y3 y4) (first | exact KEEP.out | go_keep) (first
    | (go_at_call 22; refine (dioramalaw19_ours.calls y1 y2 Ae ce y3 Af cf y4 0 _ (show _ ∧ _ ∧ _ ∧ _ ∧ _ ∧ _ ∧ _ ∧ _ ∧ Two w _ g1 g2 _ _ _ _ _ _ _ _ _ _ _ _ _ _ _ _ from by assumption).2.2.2.2.2.2.2.2.a Re.out (show _ ∧ _ ∧ _ ∧ _ ∧ _ ∧ _ ∧ _ ∧ _ ∧ Two w _ g1 g2 _ _ _ _ _ _ _ _ _ _ _ _ _ _ _ _ from by assumption).2.2.2.2.2.2.2.2.d Rf.out rfl).mono ?_; rintro e wq ⟨rfl, hb⟩; have KEEP := Aside0.mk (Two.all (Two.step (show _ ∧ _ ∧ _ ∧ _ ∧ _ ∧ _ ∧ _ ∧ _ ∧ Two w _ g1 g2 _ _ _ _ _ _ _ _ _ _ _ _ _ _ _ _ from by assumption).2.2.2.2.2.2.2.2 hb)); clear hb)
    | (go_at_call 21; refine (dioramalaw19_same.calls k y1 y2 Ae ce y3 Af cf y4 y1 y2 Ag cg y3 Ah ch y4 true _ (show _ ∧ _ ∧ _ ∧ _ ∧ _ ∧ _ ∧ _ ∧ _ ∧ Two w _ g1 g2 _ _ _ _ _ _ _ _ _ _ _ _ _ _ _ _ from by assumption).2.2.2.2.2.2.2.2.a Re.out (show _ ∧ _ ∧ _ ∧ _ ∧ _ ∧ _ ∧ _ ∧ _ ∧ Two w _ g1 g2 _ _ _ _ _ _ _ _ _ _ _ _ _ _ _ _ from by assumption).2.2.2.2.2.2.2.2.d Rf.out (show _ ∧ _ ∧ _ ∧ _ ∧ _ ∧ _ ∧ _ ∧ _ ∧ Two w _ g1 g2 _ _ _ _ _ _ _ _ _ _ _ _ _ _ _ _ from by assumption).2.2.2.2.2.2.2.2.a' Rg.out (show _ ∧ _ ∧ _ ∧ _ ∧ _ ∧ _ ∧ _ ∧ _ ∧ Two w _ g1 g2 _ _ _ _ _ _ _ _ _ _ _ _ _ _ _ _ from by assumption).2.2.2.2.2.2.2.2.d' Rh.out H7.out).mono ?_; rintro e wq ⟨rfl, hb⟩; have KEEP := Aside0.mk (Two.all (Two.step (show _ ∧ _ ∧ _ ∧ _ ∧ _ ∧ _ ∧ _ ∧ _ ∧ Two w _ g1 g2 _ _ _ _ _ _ _ _ _ _ _ _ _ _ _ _ from by assumption).2.2.2.2.2.2.2.2 hb)); clear hb)
    | (go_at_call 17; refine (dioramalaw19_awake.calls k true _ H8.out).mono ?_; rintro e wq ⟨rfl, hb⟩; have KEEP := Aside0.mk (Two.all (Two.step (show _ ∧ _ ∧ _ ∧ _ ∧ _ ∧ _ ∧ _ ∧ _ ∧ Two w _ g1 g2 _ _ _ _ _ _ _ _ _ _ _ _ _ _ _ _ from by assumption).2.2.2.2.2.2.2.2 hb)); clear hb))
  go_wp2_with fail
  go_ret
  exact ⟨rfl, ((show _ ∧ _ ∧ _ ∧ _ ∧ _ ∧ _ ∧ _ ∧ _ ∧ Two w _ g1 g2 _ _ _ _ _ _ _ _ _ _ _ _ _ _ _ _ from by assumption).2.2.2.2.2.2.2.2).b⟩
set_option maxRecDepth 100000 in
set_option maxHeartbeats 2000000 in
theorem composes_not {w : World} (k : Nat) (A0 : Option Addr) (c0 : Nat) (l : List S51) (a1 a2 : Int) (hr0 : Kd.C k51 w A0 l.length l) (hc0 : l.length ≤ c0) (h1 : dioramalaw19_pages.f k l = some false) :
    Calls Try.prog 4 #[.slice A0 l.length c0, .int .i64 a1, .int .i64 a2] w fun e w' => e = .returned (.bool true) ∧ Below w.heap.size w w' := by
  have HR := Aside0.mk hr0
  have HC := Aside0.mk hc0
  have H1 := Aside0.mk h1
  clear hr0 hc0 h1
  go_enter Try.func4, Try.ntmps4
  go_wp2_with fail
  refine (dioramalaw19_pages.calls k A0 c0 l false w HR.out HC.out H1.out).mono ?_
  rintro e w1 ⟨rfl, hb⟩
  have B1 := Aside0.mk hb
  clear hb
  go_wp2_with fail
  go_ret
  exact ⟨rfl, B1.out⟩
/-- What the statement asks, said of both sides' answers. -/
def dioramalaw19_BitmapComposes.f (k : Nat) (l0 : List (S51)) (a1 : Int) (a2 : Int) : Option (Bool) :=
  (dioramalaw19_pages.f k l0).bind fun p => if p = false then some true else
  (bitmap_Compose.f k l0 a1 a2).bind fun x => (dioramaref19_Compose.f k l0 a1 a2).bind fun x' => (dioramalaw19_same.f k x.1 x.2.1 x.2.2.1 x.2.2.2.1 x.1 x.2.1 x.2.2.1 x.2.2.2.1).bind fun t =>
  (bitmap_Empty.f k a1 a2).bind fun y => (dioramaref19_Empty.f k a1 a2).bind fun y' => (dioramalaw19_same.f k y.1 y.2.1 y.2.2.1 y.2.2.2.1 y.1 y.2.1 y.2.2.1 y.2.2.2.1).bind fun u =>
  (dioramalaw19_awake.f k).bind fun v => if x = x' ∧ t = true ∧ y = y' ∧ u = true ∧ v = true then some true else none
theorem dioramalaw19_BitmapComposes.calls (k : Nat) (A0 : Option Addr) (c0 : Nat) (l0 : List (S51)) (a1 : Int) (a2 : Int) (r : Bool) (w : World) (hr0 : Kd.C k51 w A0 l0.length l0) (hc0 : l0.length ≤ c0) (h : dioramalaw19_BitmapComposes.f k l0 a1 a2 = some r) :
    Calls Try.prog 4 #[.slice A0 l0.length c0, .int .i64 a1, .int .i64 a2] w fun e w' => e = .returned (.bool r) ∧ Below w.heap.size w w' := by
  unfold dioramalaw19_BitmapComposes.f at h
  obtain ⟨p, h1, q1⟩ := Option.bind_eq_some_iff.mp h
  cases p with
  | false =>
    rw [if_pos rfl] at q1
    obtain rfl := Option.some.inj q1
    exact composes_not k A0 c0 l0 a1 a2 hr0 hc0 h1
  | true =>
    rw [if_neg (by simp)] at q1
    obtain ⟨⟨x1, x2, x3, x4, x5⟩, h2, q2⟩ := Option.bind_eq_some_iff.mp q1
    obtain ⟨x', h3, q3⟩ := Option.bind_eq_some_iff.mp q2
    obtain ⟨t, h4, q4⟩ := Option.bind_eq_some_iff.mp q3
    obtain ⟨⟨y1, y2, y3, y4, y5⟩, h5, q5⟩ := Option.bind_eq_some_iff.mp q4
    obtain ⟨y', h6, q6⟩ := Option.bind_eq_some_iff.mp q5
    obtain ⟨u, h7, q7⟩ := Option.bind_eq_some_iff.mp q6
    obtain ⟨v, h8, q8⟩ := Option.bind_eq_some_iff.mp q7
    by_cases hc : (x1, x2, x3, x4, x5) = x' ∧ t = true ∧ (y1, y2, y3, y4, y5) = y' ∧ u = true ∧ v = true
    · rw [if_pos hc] at q8
      obtain rfl := Option.some.inj q8
      obtain ⟨rfl, rfl, rfl, rfl, rfl⟩ := hc
      exact composes_walk k A0 c0 l0 a1 a2 hr0 hc0 h1 x1 x2 x3 x4 x5 h2 h3 h4 y1 y2 y3 y4 y5 h5 h6 h7 h8
    · rw [if_neg hc] at q8; cases q8
end Go.Proofs.Ytaebgjdaoloceaa.QBmpC
