/- A lemma file: the law SoundCuts, walked. No condition. -/
import Derived.Test.YtdiemkeflmflaaaQSoundx4
import Derived.Test.YtdiemkeflmflaaaQSoundx4
import Derived.Test.YtdiemkeflmflaaaQSoundx7
import Derived.Test.YtdiemkeflmflaaaQSoundx10
import Derived.Test.YtdiemkeflmflaaaQSoundx11
import Derived.Test.YtdiemkeflmflaaaQSoundx12
import Derived.Test.YtdiemkeflmflaaaQSoundx14
import Derived.Test.YtdiemkeflmflaaaQSoundx15
import Derived.Deep.RegionHeld3
namespace Go.Proofs.Ytdiemkeflmflaaa.QSound
open Go.RowKit Go.Proofs.YtdiemkeflmflaaaW.PrintWords Go.Proofs.YtdiemkeflmflaaaW.PrintLast Go.Proofs.YtdiemkeflmflaaaW.PrintMore Go.Proofs.YtdiemkeflmflaaaV
set_option linter.unusedVariables false
set_option linter.unusedSimpArgs false
set_option maxRecDepth 100000 in
set_option maxHeartbeats 2000000 in
theorem cuts_walk {w : World} (k : Nat) (b : Int) (A0 : Option Addr) (c0 : Nat) (l : List (List Int)) (b' : Int) (A1 : Option Addr) (c1 : Nat) (l' : List (List Int)) (p q : Int)
    (hr0 : Kd.C (Kd.slice 3 (Kd.int .i64)) w A0 l.length l) (hc0 : l.length ≤ c0) (hr1 : Kd.C (Kd.slice 3 (Kd.int .i64)) w A1 l'.length l') (hc1 : l'.length ≤ c1)
    (g1_ g2_ : Bool) (h1 : dioramalaw16_long.f k b l = some g1_) (h2 : dioramalaw16_long.f k b' l' = some g2_)
    (x1 : Int) (x2 : List (List Int)) (x3 : Int) (y1 : Int) (y2 : List (List Int)) (y3 : Int) (e1 : Bool) 
    (h3 : sound_Cut.f k b l p q = some (x1, x2, x3)) (h4 : dioramaref16_Cut.f k b l p q = some (x1, x2, x3))
    (h5 : sound_Join.f k b l b' l' = some (y1, y2, y3)) (h6 : dioramaref16_Join.f k b l b' l' = some (y1, y2, y3))
    (h7 : dioramaref00_EqWave.f k x1 x2 x1 x2 = some true) (h8 : dioramaref00_EqWave.f k y1 y2 y1 y2 = some true)
    (h9 : sound_Same.f k b l b' l' = some e1) (h10 : dioramaref00_EqWave.f k b l b' l' = some e1) :
    Calls Try.prog 9 #[.agg #[.int .i64 b, .slice A0 l.length c0], .agg #[.int .i64 b', .slice A1 l'.length c1], .agg #[.int .i64 p, .int .i64 q]] w fun e w' => e = .returned (.bool true) ∧ Below w.heap.size w w' := by
  have hu := Try.underlying46
  have hu2 := Try.underlying56
  have HR := Aside0.mk hr0
  have HC := Aside0.mk hc0
  have HR1 := Aside0.mk hr1
  have HC1 := Aside0.mk hc1
  have H1 := Aside0.mk h1
  have H2 := Aside0.mk h2
  have H3 := Aside0.mk h3
  have H4 := Aside0.mk h4
  have H5 := Aside0.mk h5
  have H6 := Aside0.mk h6
  have H7 := Aside0.mk h7
  have H8 := Aside0.mk h8
  have H9 := Aside0.mk h9
  have H10 := Aside0.mk h10
  clear hr0 hc0 hr1 hc1 h1 h2 h3 h4 h5 h6 h7 h8 h9 h10
  go_enter Try.func9, Try.ntmps9
  go_wp2_with (first | ((with_reducible refine gate_dst (N := 3) rfl ?_); refine box_event ?hg (N := 3) ?hd (cs := #[.int .i64 b, .slice A0 l.length c0]) (t := 46) ?hr ?_; (case hd => rfl); (case hg => rfl); (case hr => first | (go_simp; done) | (go_simp; rfl)); intro g1 hg w1 hbox hb; have n0_ := Aside0.mk (below_step (Below.refl _ _) hb); have n1_ := Aside0.mk hbox; clear hb hbox hg; have B1 := n0_; have G1 := n1_; clear n0_ n1_) | ((with_reducible refine gate_dst (N := 4) rfl ?_); refine box_event ?hg (N := 4) ?hd (cs := #[.int .i64 b', .slice A1 l'.length c1]) (t := 46) ?hr ?_; (case hd => rfl); (case hg => rfl); (case hr => first | (go_simp; done) | (go_simp; rfl)); intro g2 hg w2 hbox hb; have n0_ := Aside0.mk (below_step B1.out hb); have n1_ := Aside0.mk hbox; have n_G1 := Aside0.mk (blk_below G1.out hb); clear hb hbox hg; have B2 := n0_; have G2 := n1_; clear G1; have G1 := n_G1; clear n0_ n1_ n_G1 B1) | ((with_reducible refine gate_dst (N := 5) rfl ?_); refine box_event ?hg (N := 5) ?hd (cs := #[.int .i64 p, .int .i64 q]) (t := 56) ?hr ?_; (case hd => rfl); (case hg => rfl); (case hr => first | (go_simp; done) | (go_simp; rfl)); intro g3 hg w3 hbox hb; have n0_ := Aside0.mk (below_step B2.out hb); have n1_ := Aside0.mk hbox; have n_G1 := Aside0.mk (blk_below G1.out hb); have n_G2 := Aside0.mk (blk_below G2.out hb); clear hb hbox hg; have B3 := n0_; have G3 := n1_; clear G1 G2; have G1 := n_G1; have G2 := n_G2; clear n0_ n1_ n_G1 n_G2 B2; obtain ⟨hz0, hz1, hf0, hf1⟩ := cells2 G1.out; obtain ⟨hy0, hy1, hg0, hg1⟩ := cells2 G2.out; obtain ⟨hx0, hx1, hh0, hh1⟩ := cells2 G3.out))
  refine (dioramalaw16_long.calls k b A0 c0 l g1_ w3 (Kd.C_below HR.out B3.out) HC.out H1.out).mono ?_
  rintro e w4 ⟨rfl, hb⟩
  clear hz0 hz1 hf0 hf1 hy0 hy1 hg0 hg1 hx0 hx1 hh0 hh1
  have B4 := Aside0.mk (below_step B3.out hb)
  have n_G1 := Aside0.mk (blk_below G1.out hb)
  have n_G2 := Aside0.mk (blk_below G2.out hb)
  have n_G3 := Aside0.mk (blk_below G3.out hb)
  clear G1 G2 G3 hb
  have G1 := n_G1
  have G2 := n_G2
  have G3 := n_G3
  clear n_G1 n_G2 n_G3
  obtain ⟨hz0, hz1, hf0, hf1⟩ := cells2 G1.out
  obtain ⟨hy0, hy1, hg0, hg1⟩ := cells2 G2.out
  obtain ⟨hx0, hx1, hh0, hh1⟩ := cells2 G3.out
  cases g1_ with
  | true =>
    go_wp2_with fail
    refine (dioramalaw16_awake.calls true _ rfl).mono ?_
    rintro e w5 ⟨rfl, hb⟩
    have B5 := Aside0.mk (below_step B4.out hb)
    clear hb
    go_wp2_with fail
    go_ret
    exact ⟨rfl, B5.out⟩
  | false =>
    go_wp2_with fail
    refine (dioramalaw16_long.calls k b' A1 c1 l' g2_ w4 (Kd.C_below HR1.out B4.out) HC1.out H2.out).mono ?_
    rintro e w5 ⟨rfl, hb⟩
    clear hz0 hz1 hf0 hf1 hy0 hy1 hg0 hg1 hx0 hx1 hh0 hh1
    have B5 := Aside0.mk (below_step B4.out hb)
    have n_G1 := Aside0.mk (blk_below G1.out hb)
    have n_G2 := Aside0.mk (blk_below G2.out hb)
    have n_G3 := Aside0.mk (blk_below G3.out hb)
    clear G1 G2 G3 hb
    have G1 := n_G1
    have G2 := n_G2
    have G3 := n_G3
    clear n_G1 n_G2 n_G3
    obtain ⟨hz0, hz1, hf0, hf1⟩ := cells2 G1.out
    obtain ⟨hy0, hy1, hg0, hg1⟩ := cells2 G2.out
    obtain ⟨hx0, hx1, hh0, hh1⟩ := cells2 G3.out
    cases g2_ with
    | true =>
      go_wp2_with fail
      refine (dioramalaw16_awake.calls true _ rfl).mono ?_
      rintro e w6 ⟨rfl, hb⟩
      have B6 := Aside0.mk (below_step B5.out hb)
      clear hb
      go_wp2_with fail
      go_ret
      exact ⟨rfl, B6.out⟩
    | false =>
      go_wp2_with fail
      refine (sound_Cut.calls k b A0 c0 l p q x1 x2 x3 w5 (Kd.C_below HR.out B5.out) HC.out H3.out).mono ?_
      rintro e w6 ⟨v1, rfl, hs, hb⟩
      obtain ⟨Aa1, ca1, rfl⟩ := Kd.S_slice hs
      have RS1 := Aside0.mk (Kd.S_reads' hs).2
      clear hs
      clear hz0 hz1 hf0 hf1 hy0 hy1 hg0 hg1 hx0 hx1 hh0 hh1
      have BX := Aside0.mk (below_step B5.out hb)
      obtain ⟨w7, hw1⟩ : ∃ wz, w6.alloc (.cells #[.int .i64 x1, .slice Aa1 x2.length ca1] 46) = wz := ⟨_, rfl⟩
      obtain ⟨r1, hrr1⟩ : ∃ rz, w6.heap.size = rz := ⟨_, rfl⟩
      have B7 : Aside0 (Below w.heap.size w w7) := ⟨by rw [← hw1]; exact below_alloc BX.out _⟩
      have n_G1 := Aside0.mk (show w7.heap[_]? = some _ from by rw [← hw1]; exact blk_alloc (blk_below G1.out hb) _)
      have n_G2 := Aside0.mk (show w7.heap[_]? = some _ from by rw [← hw1]; exact blk_alloc (blk_below G2.out hb) _)
      have n_G3 := Aside0.mk (show w7.heap[_]? = some _ from by rw [← hw1]; exact blk_alloc (blk_below G3.out hb) _)
      have R1 : Aside0 (w7.heap[r1]? = some (.cells #[.int .i64 x1, .slice Aa1 x2.length ca1] 46 (0, 0))) := ⟨by rw [← hw1, ← hrr1]; exact blk_new w6 _⟩
      have RC1 : Aside0 (Kd.C (Kd.slice 3 (Kd.int .i64)) w7 Aa1 x2.length x2) := ⟨by rw [← hw1]; exact Kd.C_alloc RS1.out.2 _⟩
      clear G1 G2 G3 hb BX
      have G1 := n_G1
      have G2 := n_G2
      have G3 := n_G3
      clear n_G1 n_G2 n_G3
      obtain ⟨hz0, hz1, hf0, hf1⟩ := cells2 G1.out
      obtain ⟨hy0, hy1, hg0, hg1⟩ := cells2 G2.out
      obtain ⟨hx0, hx1, hh0, hh1⟩ := cells2 G3.out
      obtain ⟨ra0, ra1, rb0, rb1⟩ := cells2 R1.out
      go_wp2_with fail
      clear hw1 hrr1
      refine (dioramaref16_Cut.calls k b A0 c0 l p q x1 x2 x3 w7 (Kd.C_below HR.out B7.out) HC.out H4.out).mono ?_
      rintro e w8 ⟨v2, rfl, hs, hb⟩
      obtain ⟨Aa2, ca2, rfl⟩ := Kd.S_slice hs
      have RS2 := Aside0.mk (Kd.S_reads' hs).2
      clear hs
      clear hz0 hz1 hf0 hf1 hy0 hy1 hg0 hg1 hx0 hx1 hh0 hh1 ra0 ra1 rb0 rb1
      have BX := Aside0.mk (below_step B7.out hb)
      obtain ⟨w9, hw2⟩ : ∃ wz, w8.alloc (.cells #[.int .i64 x1, .slice Aa2 x2.length ca2] 46) = wz := ⟨_, rfl⟩
      obtain ⟨r2, hrr2⟩ : ∃ rz, w8.heap.size = rz := ⟨_, rfl⟩
      have B9 : Aside0 (Below w.heap.size w w9) := ⟨by rw [← hw2]; exact below_alloc BX.out _⟩
      have n_G1 := Aside0.mk (show w9.heap[_]? = some _ from by rw [← hw2]; exact blk_alloc (blk_below G1.out hb) _)
      have n_G2 := Aside0.mk (show w9.heap[_]? = some _ from by rw [← hw2]; exact blk_alloc (blk_below G2.out hb) _)
      have n_G3 := Aside0.mk (show w9.heap[_]? = some _ from by rw [← hw2]; exact blk_alloc (blk_below G3.out hb) _)
      have n_R1 := Aside0.mk (show w9.heap[_]? = some _ from by rw [← hw2]; exact blk_alloc (blk_below R1.out hb) _)
      have R2 : Aside0 (w9.heap[r2]? = some (.cells #[.int .i64 x1, .slice Aa2 x2.length ca2] 46 (0, 0))) := ⟨by rw [← hw2, ← hrr2]; exact blk_new w8 _⟩
      have RC2 : Aside0 (Kd.C (Kd.slice 3 (Kd.int .i64)) w9 Aa2 x2.length x2) := ⟨by rw [← hw2]; exact Kd.C_alloc RS2.out.2 _⟩
      have q_1 := Aside0.mk (show Kd.C (Kd.slice 3 (Kd.int .i64)) w9 Aa1 x2.length x2 from by rw [← hw2]; exact Kd.C_alloc (Kd.C_below RC1.out hb) _)
      clear RC1
      have RC1 := q_1
      clear q_1
      clear G1 G2 G3 R1 hb BX
      have G1 := n_G1
      have G2 := n_G2
      have G3 := n_G3
      have R1 := n_R1
      clear n_G1 n_G2 n_G3 n_R1
      obtain ⟨hz0, hz1, hf0, hf1⟩ := cells2 G1.out
      obtain ⟨hy0, hy1, hg0, hg1⟩ := cells2 G2.out
      obtain ⟨hx0, hx1, hh0, hh1⟩ := cells2 G3.out
      obtain ⟨ra0, ra1, rb0, rb1⟩ := cells2 R1.out
      obtain ⟨rc0, rc1, rd_0, rd_1⟩ := cells2 R2.out
      go_wp2_with fail
      clear hw2 hrr2
      refine (sound_Join.calls k b (fun _ => True) A0 c0 l b' (fun _ => True) A1 c1 l' y1 y2 y3 w9 (Kd.V_mk HC.out (Kd.F_mono (Kd.C_F (Kd.heap_slice 3 (Kd.heap_int .i64)) (Kd.C_below HR.out B9.out)) (fun _ _ => trivial))) (Kd.V_mk HC1.out (Kd.F_mono (Kd.C_F (Kd.heap_slice 3 (Kd.heap_int .i64)) (Kd.C_below HR1.out B9.out)) (fun _ _ => trivial))) H5.out).mono ?_
      rintro e w10 ⟨v3, rfl, hs, hb⟩
      obtain ⟨Aa3, ca3, rfl⟩ := Kd.N_slice hs
      have RS3 := Aside0.mk (Kd.N_reads' hs).2
      clear hs
      clear hz0 hz1 hf0 hf1 hy0 hy1 hg0 hg1 hx0 hx1 hh0 hh1 ra0 ra1 rb0 rb1 rc0 rc1 rd_0 rd_1
      have BX := Aside0.mk (below_step B9.out hb)
      obtain ⟨w11, hw3⟩ : ∃ wz, w10.alloc (.cells #[.int .i64 y1, .slice Aa3 y2.length ca3] 46) = wz := ⟨_, rfl⟩
      obtain ⟨r3, hrr3⟩ : ∃ rz, w10.heap.size = rz := ⟨_, rfl⟩
      have B11 : Aside0 (Below w.heap.size w w11) := ⟨by rw [← hw3]; exact below_alloc BX.out _⟩
      have n_G1 := Aside0.mk (show w11.heap[_]? = some _ from by rw [← hw3]; exact blk_alloc (blk_below G1.out hb) _)
      have n_G2 := Aside0.mk (show w11.heap[_]? = some _ from by rw [← hw3]; exact blk_alloc (blk_below G2.out hb) _)
      have n_G3 := Aside0.mk (show w11.heap[_]? = some _ from by rw [← hw3]; exact blk_alloc (blk_below G3.out hb) _)
      have n_R1 := Aside0.mk (show w11.heap[_]? = some _ from by rw [← hw3]; exact blk_alloc (blk_below R1.out hb) _)
      have n_R2 := Aside0.mk (show w11.heap[_]? = some _ from by rw [← hw3]; exact blk_alloc (blk_below R2.out hb) _)
      have R3 : Aside0 (w11.heap[r3]? = some (.cells #[.int .i64 y1, .slice Aa3 y2.length ca3] 46 (0, 0))) := ⟨by rw [← hw3, ← hrr3]; exact blk_new w10 _⟩
      have RC3 : Aside0 (Kd.C (Kd.slice 3 (Kd.int .i64)) w11 Aa3 y2.length y2) := ⟨by rw [← hw3]; exact Kd.C_alloc RS3.out.2 _⟩
      have q_1 := Aside0.mk (show Kd.C (Kd.slice 3 (Kd.int .i64)) w11 Aa1 x2.length x2 from by rw [← hw3]; exact Kd.C_alloc (Kd.C_below RC1.out hb) _)
      have q_2 := Aside0.mk (show Kd.C (Kd.slice 3 (Kd.int .i64)) w11 Aa2 x2.length x2 from by rw [← hw3]; exact Kd.C_alloc (Kd.C_below RC2.out hb) _)
      clear RC1 RC2
      have RC1 := q_1
      clear q_1
      have RC2 := q_2
      clear q_2
      clear G1 G2 G3 R1 R2 hb BX
      have G1 := n_G1
      have G2 := n_G2
      have G3 := n_G3
      have R1 := n_R1
      have R2 := n_R2
      clear n_G1 n_G2 n_G3 n_R1 n_R2
      obtain ⟨hz0, hz1, hf0, hf1⟩ := cells2 G1.out
      obtain ⟨hy0, hy1, hg0, hg1⟩ := cells2 G2.out
      obtain ⟨hx0, hx1, hh0, hh1⟩ := cells2 G3.out
      obtain ⟨ra0, ra1, rb0, rb1⟩ := cells2 R1.out
      obtain ⟨rc0, rc1, rd_0, rd_1⟩ := cells2 R2.out
      obtain ⟨re0, re1, rf0, rf1⟩ := cells2 R3.out
      go_wp2_with fail
      clear hw3 hrr3
      refine (dioramaref16_Join.calls k b A0 c0 l b' A1 c1 l' y1 y2 y3 w11 (Kd.C_below HR.out B11.out) HC.out (Kd.C_below HR1.out B11.out) HC1.out H6.out).mono ?_
      rintro e w12 ⟨v4, rfl, hs, hb⟩
      obtain ⟨Aa4, ca4, rfl⟩ := Kd.S_slice hs
      have RS4 := Aside0.mk (Kd.S_reads' hs).2
      clear hs
      clear hz0 hz1 hf0 hf1 hy0 hy1 hg0 hg1 hx0 hx1 hh0 hh1 ra0 ra1 rb0 rb1 rc0 rc1 rd_0 rd_1 re0 re1 rf0 rf1
      have BX := Aside0.mk (below_step B11.out hb)
      obtain ⟨w13, hw4⟩ : ∃ wz, w12.alloc (.cells #[.int .i64 y1, .slice Aa4 y2.length ca4] 46) = wz := ⟨_, rfl⟩
      obtain ⟨r4, hrr4⟩ : ∃ rz, w12.heap.size = rz := ⟨_, rfl⟩
      have B13 : Aside0 (Below w.heap.size w w13) := ⟨by rw [← hw4]; exact below_alloc BX.out _⟩
      have n_G1 := Aside0.mk (show w13.heap[_]? = some _ from by rw [← hw4]; exact blk_alloc (blk_below G1.out hb) _)
      have n_G2 := Aside0.mk (show w13.heap[_]? = some _ from by rw [← hw4]; exact blk_alloc (blk_below G2.out hb) _)
      have n_G3 := Aside0.mk (show w13.heap[_]? = some _ from by rw [← hw4]; exact blk_alloc (blk_below G3.out hb) _)
      have n_R1 := Aside0.mk (show w13.heap[_]? = some _ from by rw [← hw4]; exact blk_alloc (blk_below R1.out hb) _)
      have n_R2 := Aside0.mk (show w13.heap[_]? = some _ from by rw [← hw4]; exact blk_alloc (blk_below R2.out hb) _)
      have n_R3 := Aside0.mk (show w13.heap[_]? = some _ from by rw [← hw4]; exact blk_alloc (blk_below R3.out hb) _)
      have R4 : Aside0 (w13.heap[r4]? = some (.cells #[.int .i64 y1, .slice Aa4 y2.length ca4] 46 (0, 0))) := ⟨by rw [← hw4, ← hrr4]; exact blk_new w12 _⟩
      have RC4 : Aside0 (Kd.C (Kd.slice 3 (Kd.int .i64)) w13 Aa4 y2.length y2) := ⟨by rw [← hw4]; exact Kd.C_alloc RS4.out.2 _⟩
      have q_1 := Aside0.mk (show Kd.C (Kd.slice 3 (Kd.int .i64)) w13 Aa1 x2.length x2 from by rw [← hw4]; exact Kd.C_alloc (Kd.C_below RC1.out hb) _)
      have q_2 := Aside0.mk (show Kd.C (Kd.slice 3 (Kd.int .i64)) w13 Aa2 x2.length x2 from by rw [← hw4]; exact Kd.C_alloc (Kd.C_below RC2.out hb) _)
      have q_3 := Aside0.mk (show Kd.C (Kd.slice 3 (Kd.int .i64)) w13 Aa3 y2.length y2 from by rw [← hw4]; exact Kd.C_alloc (Kd.C_below RC3.out hb) _)
      clear RC1 RC2 RC3
      have RC1 := q_1
      clear q_1
      have RC2 := q_2
      clear q_2
      have RC3 := q_3
      clear q_3
      clear G1 G2 G3 R1 R2 R3 hb BX
      have G1 := n_G1
      have G2 := n_G2
      have G3 := n_G3
      have R1 := n_R1
      have R2 := n_R2
      have R3 := n_R3
      clear n_G1 n_G2 n_G3 n_R1 n_R2 n_R3
      obtain ⟨hz0, hz1, hf0, hf1⟩ := cells2 G1.out
      obtain ⟨hy0, hy1, hg0, hg1⟩ := cells2 G2.out
      obtain ⟨hx0, hx1, hh0, hh1⟩ := cells2 G3.out
      obtain ⟨ra0, ra1, rb0, rb1⟩ := cells2 R1.out
      obtain ⟨rc0, rc1, rd_0, rd_1⟩ := cells2 R2.out
      obtain ⟨re0, re1, rf0, rf1⟩ := cells2 R3.out
      obtain ⟨rg0, rg1, rh0, rh1⟩ := cells2 R4.out
      go_wp2_with fail
      clear hw4 hrr4
      refine (dioramaref00_EqWave.calls k x1 Aa1 ca1 x2 x1 Aa2 ca2 x2 true w13 RC1.out RS1.out.1 RC2.out RS2.out.1 H7.out).mono ?_
      rintro e w14 ⟨rfl, hb⟩
      have RC3' := Aside0.mk (Kd.C_below RC3.out hb)
      have RC4' := Aside0.mk (Kd.C_below RC4.out hb)
      clear hz0 hz1 hf0 hf1 hy0 hy1 hg0 hg1 hx0 hx1 hh0 hh1 ra0 ra1 rb0 rb1 rc0 rc1 rd_0 rd_1 re0 re1 rf0 rf1 rg0 rg1 rh0 rh1
      have B14 := Aside0.mk (below_step B13.out hb)
      have n_G1 := Aside0.mk (blk_below G1.out hb)
      have n_G2 := Aside0.mk (blk_below G2.out hb)
      have n_G3 := Aside0.mk (blk_below G3.out hb)
      have n_R1 := Aside0.mk (blk_below R1.out hb)
      have n_R2 := Aside0.mk (blk_below R2.out hb)
      have n_R3 := Aside0.mk (blk_below R3.out hb)
      have n_R4 := Aside0.mk (blk_below R4.out hb)
      clear G1 G2 G3 R1 R2 R3 R4 hb
      have G1 := n_G1
      have G2 := n_G2
      have G3 := n_G3
      have R1 := n_R1
      have R2 := n_R2
      have R3 := n_R3
      have R4 := n_R4
      clear n_G1 n_G2 n_G3 n_R1 n_R2 n_R3 n_R4
      obtain ⟨hz0, hz1, hf0, hf1⟩ := cells2 G1.out
      obtain ⟨hy0, hy1, hg0, hg1⟩ := cells2 G2.out
      obtain ⟨hx0, hx1, hh0, hh1⟩ := cells2 G3.out
      obtain ⟨ra0, ra1, rb0, rb1⟩ := cells2 R1.out
      obtain ⟨rc0, rc1, rd_0, rd_1⟩ := cells2 R2.out
      obtain ⟨re0, re1, rf0, rf1⟩ := cells2 R3.out
      obtain ⟨rg0, rg1, rh0, rh1⟩ := cells2 R4.out
      have hn1 : (x3 != x3) = false := by simp
      have hn2 : (y3 != y3) = false := by simp
      go_wp2_with fail
      refine (dioramaref00_EqWave.calls k y1 Aa3 ca3 y2 y1 Aa4 ca4 y2 true w14 RC3'.out RS3.out.1 RC4'.out RS4.out.1 H8.out).mono ?_
      rintro e w15 ⟨rfl, hb⟩
      clear hz0 hz1 hf0 hf1 hy0 hy1 hg0 hg1 hx0 hx1 hh0 hh1 ra0 ra1 rb0 rb1 rc0 rc1 rd_0 rd_1 re0 re1 rf0 rf1 rg0 rg1 rh0 rh1
      have B15 := Aside0.mk (below_step B14.out hb)
      have n_G1 := Aside0.mk (blk_below G1.out hb)
      have n_G2 := Aside0.mk (blk_below G2.out hb)
      have n_G3 := Aside0.mk (blk_below G3.out hb)
      have n_R1 := Aside0.mk (blk_below R1.out hb)
      have n_R2 := Aside0.mk (blk_below R2.out hb)
      have n_R3 := Aside0.mk (blk_below R3.out hb)
      have n_R4 := Aside0.mk (blk_below R4.out hb)
      clear G1 G2 G3 R1 R2 R3 R4 hb
      have G1 := n_G1
      have G2 := n_G2
      have G3 := n_G3
      have R1 := n_R1
      have R2 := n_R2
      have R3 := n_R3
      have R4 := n_R4
      clear n_G1 n_G2 n_G3 n_R1 n_R2 n_R3 n_R4
      obtain ⟨hz0, hz1, hf0, hf1⟩ := cells2 G1.out
      obtain ⟨hy0, hy1, hg0, hg1⟩ := cells2 G2.out
      obtain ⟨hx0, hx1, hh0, hh1⟩ := cells2 G3.out
      obtain ⟨ra0, ra1, rb0, rb1⟩ := cells2 R1.out
      obtain ⟨rc0, rc1, rd_0, rd_1⟩ := cells2 R2.out
      obtain ⟨re0, re1, rf0, rf1⟩ := cells2 R3.out
      obtain ⟨rg0, rg1, rh0, rh1⟩ := cells2 R4.out
      go_wp2_with fail
      clear hz0 hz1 hf0 hf1 hy0 hy1 hg0 hg1 hx0 hx1 hh0 hh1 ra0 ra1 rb0 rb1 rc0 rc1 rd_0 rd_1 re0 re1 rf0 rf1 rg0 rg1 rh0 rh1
      have CUR : Aside0 (Below w.heap.size w w15.drew ∧ w15.drew.heap[g1]? = some (.cells #[.int .i64 b, .slice A0 l.length c0] 46 (0, 0)) ∧ w15.drew.heap[g2]? = some (.cells #[.int .i64 b', .slice A1 l'.length c1] 46 (0, 0))) := ⟨⟨below_drew B15.out, G1.out, G2.out⟩⟩
      obtain ⟨hz0, hz1, hf0, hf1⟩ := cells2 CUR.out.2.1
      obtain ⟨hy0, hy1, hg0, hg1⟩ := cells2 CUR.out.2.2
      clear G1 G2 G3 R1 R2 R3 R4 RC1 RC2 RC3 RC4 RC3' RC4' RS1 RS2 RS3 RS4 B5 B7 B9 B11 B13 B14 hn1 hn2
      have KEEP := Aside0.mk (And.intro (cells2 CUR.out.2.1).1 (And.intro (cells2 CUR.out.2.1).2.1 (And.intro (cells2 CUR.out.2.2).1 (And.intro (cells2 CUR.out.2.2).2.1 CUR.out))))
      clear hz0 hz1 hf0 hf1 hy0 hy1 hg0 hg1
      go_region_held3 (fun w' => w'.cell? ⟨g1, 0, none⟩ = some (.int .i64 b) ∧ w'.cell? ⟨g1, 1, none⟩ = some (.slice A0 l.length c0) ∧ w'.cell? ⟨g2, 0, none⟩ = some (.int .i64 b') ∧ w'.cell? ⟨g2, 1, none⟩ = some (.slice A1 l'.length c1) ∧ Below w.heap.size w w' ∧ w'.heap[g1]? = some (.cells #[.int .i64 b, .slice A0 l.length c0] 46 (0, 0)) ∧ w'.heap[g2]? = some (.cells #[.int .i64 b', .slice A1 l'.length c1] 46 (0, 0))) (first | exact KEEP.out | go_keep) (first
        | (go_at_call 41; refine (sound_Same.calls k b A0 c0 l b' A1 c1 l' e1 _ (Kd.C_below HR.out (show _ ∧ _ ∧ _ ∧ _ ∧ Below w.heap.size w _ ∧ _ ∧ _ from by assumption).2.2.2.2.1) HC.out (Kd.C_below HR1.out (show _ ∧ _ ∧ _ ∧ _ ∧ Below w.heap.size w _ ∧ _ ∧ _ from by assumption).2.2.2.2.1) HC1.out H9.out).mono ?_; rintro e wq ⟨rfl, hb⟩; have HS_ := (show _ ∧ _ ∧ _ ∧ _ ∧ Below w.heap.size w _ ∧ _ ∧ _ from by assumption); have KB := below_step HS_.2.2.2.2.1 hb; have K1 := blk_below HS_.2.2.2.2.2.1 hb; have K2 := blk_below HS_.2.2.2.2.2.2 hb; have KEEP := Aside0.mk (And.intro (cells2 K1).1 (And.intro (cells2 K1).2.1 (And.intro (cells2 K2).1 (And.intro (cells2 K2).2.1 (And.intro KB (And.intro K1 K2)))))); clear HS_ KB K1 K2 hb)
        | (go_at_call 40; refine (dioramaref00_EqWave.calls k b A0 c0 l b' A1 c1 l' e1 _ (Kd.C_below HR.out (show _ ∧ _ ∧ _ ∧ _ ∧ Below w.heap.size w _ ∧ _ ∧ _ from by assumption).2.2.2.2.1) HC.out (Kd.C_below HR1.out (show _ ∧ _ ∧ _ ∧ _ ∧ Below w.heap.size w _ ∧ _ ∧ _ from by assumption).2.2.2.2.1) HC1.out H10.out).mono ?_; rintro e wq ⟨rfl, hb⟩; have HS_ := (show _ ∧ _ ∧ _ ∧ _ ∧ Below w.heap.size w _ ∧ _ ∧ _ from by assumption); have KB := below_step HS_.2.2.2.2.1 hb; have K1 := blk_below HS_.2.2.2.2.2.1 hb; have K2 := blk_below HS_.2.2.2.2.2.2 hb; have KEEP := Aside0.mk (And.intro (cells2 K1).1 (And.intro (cells2 K1).2.1 (And.intro (cells2 K2).1 (And.intro (cells2 K2).2.1 (And.intro KB (And.intro K1 K2)))))); clear HS_ KB K1 K2 hb)
        | (go_at_call 19; refine (dioramalaw16_awake.calls true _ rfl).mono ?_; rintro e wq ⟨rfl, hb⟩; have HS_ := (show _ ∧ _ ∧ _ ∧ _ ∧ Below w.heap.size w _ ∧ _ ∧ _ from by assumption); have KB := below_step HS_.2.2.2.2.1 hb; have K1 := blk_below HS_.2.2.2.2.2.1 hb; have K2 := blk_below HS_.2.2.2.2.2.2 hb; have KEEP := Aside0.mk (And.intro (cells2 K1).1 (And.intro (cells2 K1).2.1 (And.intro (cells2 K2).1 (And.intro (cells2 K2).2.1 (And.intro KB (And.intro K1 K2)))))); clear HS_ KB K1 K2 hb))
      go_wp2_with fail
      go_ret
      exact ⟨rfl, (show _ ∧ _ ∧ _ ∧ _ ∧ Below w.heap.size w _ ∧ _ ∧ _ from by assumption).2.2.2.2.1⟩
def dioramalaw16_SoundCuts.f (k : Nat) (a0_0 : Int) (l0_1 : List (List Int)) (a1_0 : Int) (l1_1 : List (List Int)) (a2_0 : Int) (a2_1 : Int) : Option Bool :=
  (dioramalaw16_long.f k a0_0 l0_1).bind fun _ => (dioramalaw16_long.f k a1_0 l1_1).bind fun _ =>
  (sound_Cut.f k a0_0 l0_1 a2_0 a2_1).bind fun x => (dioramaref16_Cut.f k a0_0 l0_1 a2_0 a2_1).bind fun x' =>
  (sound_Join.f k a0_0 l0_1 a1_0 l1_1).bind fun y => (dioramaref16_Join.f k a0_0 l0_1 a1_0 l1_1).bind fun y' =>
  (dioramaref00_EqWave.f k x.1 x.2.1 x.1 x.2.1).bind fun t1 => (dioramaref00_EqWave.f k y.1 y.2.1 y.1 y.2.1).bind fun t2 =>
  (sound_Same.f k a0_0 l0_1 a1_0 l1_1).bind fun e1 => (dioramaref00_EqWave.f k a0_0 l0_1 a1_0 l1_1).bind fun e2 =>
  if x = x' ∧ y = y' ∧ t1 = true ∧ t2 = true ∧ e1 = e2 then some true else none
theorem dioramalaw16_SoundCuts.calls (k : Nat) (a0_0 : Int) (A0_1 : Option Addr) (c0_1 : Nat) (l0_1 : List (List Int)) (a1_0 : Int) (A1_1 : Option Addr) (c1_1 : Nat) (l1_1 : List (List Int)) (a2_0 : Int) (a2_1 : Int) (r : Bool) (w : World) (hr0_1 : Kd.C (Kd.slice 3 (Kd.int .i64)) w A0_1 l0_1.length l0_1) (hc0_1 : l0_1.length ≤ c0_1) (hr1_1 : Kd.C (Kd.slice 3 (Kd.int .i64)) w A1_1 l1_1.length l1_1) (hc1_1 : l1_1.length ≤ c1_1) (h : dioramalaw16_SoundCuts.f k a0_0 l0_1 a1_0 l1_1 a2_0 a2_1 = some r) :
    Calls Try.prog 9 #[.agg #[.int .i64 a0_0, .slice A0_1 l0_1.length c0_1], .agg #[.int .i64 a1_0, .slice A1_1 l1_1.length c1_1], .agg #[.int .i64 a2_0, .int .i64 a2_1]] w fun e w' => e = .returned (.bool r) ∧ Below w.heap.size w w' := by
  unfold dioramalaw16_SoundCuts.f at h
  obtain ⟨g1, h1, q1⟩ := Option.bind_eq_some_iff.mp h
  obtain ⟨g2, h2, q2⟩ := Option.bind_eq_some_iff.mp q1
  obtain ⟨⟨x1, x2, x3⟩, h3, q3⟩ := Option.bind_eq_some_iff.mp q2
  obtain ⟨x', h4, q4⟩ := Option.bind_eq_some_iff.mp q3
  obtain ⟨⟨y1, y2, y3⟩, h5, q5⟩ := Option.bind_eq_some_iff.mp q4
  obtain ⟨y', h6, q6⟩ := Option.bind_eq_some_iff.mp q5
  obtain ⟨t1, h7, q7⟩ := Option.bind_eq_some_iff.mp q6
  obtain ⟨t2, h8, q8⟩ := Option.bind_eq_some_iff.mp q7
  obtain ⟨e1, h9, q9⟩ := Option.bind_eq_some_iff.mp q8
  obtain ⟨e2, h10, q10⟩ := Option.bind_eq_some_iff.mp q9
  by_cases hc : (x1, x2, x3) = x' ∧ (y1, y2, y3) = y' ∧ t1 = true ∧ t2 = true ∧ e1 = e2
  · rw [if_pos hc] at q10
    obtain rfl := Option.some.inj q10
    obtain ⟨rfl, rfl, rfl, rfl, rfl⟩ := hc
    exact cuts_walk k a0_0 A0_1 c0_1 l0_1 a1_0 A1_1 c1_1 l1_1 a2_0 a2_1 hr0_1 hc0_1 hr1_1 hc1_1 g1 g2 h1 h2 x1 x2 x3 y1 y2 y3 e1 h3 h4 h5 h6 h7 h8 h9 h10
  · rw [if_neg hc] at q10; cases q10
end Go.Proofs.Ytdiemkeflmflaaa.QSound
