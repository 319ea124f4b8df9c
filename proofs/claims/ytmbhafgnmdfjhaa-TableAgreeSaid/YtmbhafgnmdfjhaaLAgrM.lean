/- A lemma file: dioramalaw09.TableAgree, walked. No condition. -/
import Derived.Test.YtmbhafgnmdfjhaaGMV
import Derived.Test.YtmbhafgnmdfjhaaGMU
import Derived.Deep.CutRange
namespace Go.Proofs.Ytmbhafgnmdfjhaa.QTab
open Go.Proofs.Ytmbhafgnmdfjhaa.PureT Go.RowKit Go.Proofs.YtmbhafgnmdfjhaaW.PrintWords Go.Proofs.YtmbhafgnmdfjhaaW.PrintLast Go.Proofs.YtmbhafgnmdfjhaaW.PrintMore Go.Proofs.YtmbhafgnmdfjhaaV
set_option linter.unusedVariables false
set_option linter.unusedSimpArgs false
def cellsT (x : S48) (v : Value) : Value := .agg #[.int .i64 x.f0, .int .i64 x.f1, .int .i64 x.f2, .int .i64 x.f3, .int .i64 x.f4, .int .i64 x.f5, .bool x.f6, v]
theorem look_calls {w : World} (t : S27) (d : D27) (hr : R27 w t d) (h : smallB t = true) (i : Int) : Calls Try.prog 28 #[.agg (cells27 t d), .int .i64 i] w fun e w' => ∃ v, e = .returned (.tuple #[cellsT (lkF t i).1 v, .int .i64 (lkF t i).2]) ∧ Kd.R (Kd.int .i64) 3 w' w.heap.size (fun _ => True) v (lkF t i).1.f7 ∧ Below w.heap.size w w' := by
  obtain ⟨K, hK⟩ := look_ev h i
  exact table_Lookup.calls K t.f0 d.A1 d.c1 t.f1 d.A2 d.c2 t.f2 d.A3 d.c3 t.f3 t.f4 t.f5 d.A6 d.c6 t.f6 d.A7 d.c7 t.f7 d.A8 d.c8 t.f8 d.A9 d.c9 t.f9 d.A10 d.c10 t.f10 i _ _ _ _ _ _ _ _ _ w hr.r1 hr.c1 hr.r2 hr.c2 hr.r3 hr.c3 hr.r6 hr.c6 hr.r7 hr.c7 hr.r8 hr.c8 hr.r9 hr.c9 hr.r10 hr.c10 (hK K (Nat.le_refl _))
theorem atP_calls {w : World} (t : S27) (d : D27) (hr : R27 w t d) (h : smallB t = true) (x : Int) : Calls Try.prog 31 #[.agg (cells27 t d), .int .i64 x] w fun e w' => e = .returned (.tuple #[.int .i64 (atF t x).1, .int .i64 (atF t x).2]) ∧ Below w.heap.size w w' := by
  obtain ⟨K, hK⟩ := at_ev h x
  exact table_At.calls K t.f0 d.A1 d.c1 t.f1 d.A2 d.c2 t.f2 d.A3 d.c3 t.f3 t.f4 t.f5 d.A6 d.c6 t.f6 d.A7 d.c7 t.f7 d.A8 d.c8 t.f8 d.A9 d.c9 t.f9 d.A10 d.c10 t.f10 x _ _ w hr.r1 hr.c1 hr.r2 hr.c2 hr.r3 hr.c3 hr.r6 hr.c6 hr.r7 hr.c7 hr.r8 hr.c8 hr.r9 hr.c9 hr.r10 hr.c10 (hK K (Nat.le_refl _))
theorem bfP_calls {w : World} (t : S27) (d : D27) (hr : R27 w t d) (h : smallB t = true) (x : Int) : Calls Try.prog 33 #[.agg (cells27 t d), .int .i64 x] w fun e w' => e = .returned (.tuple #[.int .i64 (bfF t x).1, .int .i64 (bfF t x).2]) ∧ Below w.heap.size w w' := by
  obtain ⟨K, hK⟩ := bf_ev h x
  exact table_Before.calls K t.f0 d.A1 d.c1 t.f1 d.A2 d.c2 t.f2 d.A3 d.c3 t.f3 t.f4 t.f5 d.A6 d.c6 t.f6 d.A7 d.c7 t.f7 d.A8 d.c8 t.f8 d.A9 d.c9 t.f9 d.A10 d.c10 t.f10 x _ _ w hr.r1 hr.c1 hr.r2 hr.c2 hr.r3 hr.c3 hr.r6 hr.c6 hr.r7 hr.c7 hr.r8 hr.c8 hr.r9 hr.c9 hr.r10 hr.c10 (hK K (Nat.le_refl _))
theorem chP_calls {w : World} (t : S27) (d : D27) (hr : R27 w t d) (h : smallB t = true) (x : Int) : Calls Try.prog 35 #[.agg (cells27 t d), .int .i64 x] w fun e w' => e = .returned (.tuple #[.int .i64 (chuF t x).1, .int .i64 (chuF t x).2.1, .int .i64 (chuF t x).2.2.1, .int .i64 (chuF t x).2.2.2.1, .int .i64 (chuF t x).2.2.2.2]) ∧ Below w.heap.size w w' := by
  obtain ⟨K, hK⟩ := chu_ev h x
  exact table_Chunk.calls K t.f0 d.A1 d.c1 t.f1 d.A2 d.c2 t.f2 d.A3 d.c3 t.f3 t.f4 t.f5 d.A6 d.c6 t.f6 d.A7 d.c7 t.f7 d.A8 d.c8 t.f8 d.A9 d.c9 t.f9 d.A10 d.c10 t.f10 x _ _ _ _ _ w hr.r1 hr.c1 hr.r2 hr.c2 hr.r3 hr.c3 hr.r6 hr.c6 hr.r7 hr.c7 hr.r8 hr.c8 hr.r9 hr.c9 hr.r10 hr.c10 (hK K (Nat.le_refl _))
set_option maxRecDepth 100000 in
set_option maxHeartbeats 4000000 in
theorem agree_calls {w : World} (t : S27) (d : D27) (hr : R27 w t d) :
    Calls Try.prog 7 #[.agg (cells27 t d)] w fun e w' => e = .returned (.bool true) ∧ Below w.heap.size w w' := by
  have HR := Aside0.mk hr
  clear hr
  have hu := Try.underlying27
  have hu48 := Try.underlying48
  unfold cells27
  go_enter Try.func7, Try.ntmps7
  obtain ⟨w1, hw1⟩ : ∃ wz, w.alloc (.cells (cells27 t d) 27) = wz := ⟨_, rfl⟩
  obtain ⟨g, hg⟩ : ∃ rz, w.heap.size = rz := ⟨_, rfl⟩
  have hb1 : Below w.heap.size w w1 := by rw [← hw1]; exact below_alloc (Below.refl _ _) _
  have hk1 : Box27 w1 g t d := by rw [← hw1, ← hg]; exact blk_new w _
  have S0 : Aside0 (St4 w w1 g t d) := ⟨⟨hb1, hk1, HR.out.below hb1⟩⟩
  clear hb1 hk1
  unfold cells27 at hw1
  obtain ⟨q0, q1, q2, q3, q4, q5, q6, q7, q8, q9, q10⟩ := S0.out.k.cells
  go_wp2_with fail
  clear hw1 hg
  have HC2 := small_calls t d S0.out.r
  unfold cells27 at HC2
  refine HC2.mono ?_
  rintro e w2 ⟨rfl, hb⟩
  have S1 := Aside0.mk (S0.out.step hb)
  clear hb HC2 S0 q0 q1 q2 q3 q4 q5 q6 q7 q8 q9 q10
  cases hs1 : smallB t with
  | false =>
    clear hs1
    go_wp2_with fail
    go_ret
    exact ⟨rfl, S1.out.b⟩
  | true =>
  have HS := Aside0.mk hs1
  clear hs1
  obtain ⟨q0, q1, q2, q3, q4, q5, q6, q7, q8, q9, q10⟩ := S1.out.k.cells
  go_wp2_with fail
  have hcnt : ∃ K C, dioramaref09_Count.f K t.f0 t.f1 t.f2 t.f3 t.f4 t.f5 t.f6 t.f7 t.f8 t.f9 t.f10 = some C := by
    obtain ⟨L, -, -⟩ := lens_of HS.out
    have l1 := L.l1
    obtain ⟨Kc, hc⟩ := counted_ev (l := t.f1) (by omega)
    exact ⟨Kc, _, by unfold dioramaref09_Count.f; rw [show dioramaref09_counted.f _ t.f1 = _ from hc _ (Nat.le_refl _)]; rfl⟩
  obtain ⟨K, C, hC⟩ := hcnt
  have RR := S1.out.r
  refine (dioramaref09_Count.calls K t.f0 d.A1 d.c1 t.f1 d.A2 d.c2 t.f2 d.A3 d.c3 t.f3 t.f4 t.f5 d.A6 d.c6 t.f6 d.A7 d.c7 t.f7 d.A8 d.c8 t.f8 d.A9 d.c9 t.f9 d.A10 d.c10 t.f10 C w2 RR.r1 RR.c1 RR.r2 RR.c2 RR.r3 RR.c3 RR.r6 RR.c6 RR.r7 RR.c7 RR.r8 RR.c8 RR.r9 RR.c9 RR.r10 RR.c10 hC).mono ?_
  rintro e w3 ⟨rfl, hb⟩
  have S2 := Aside0.mk (S1.out.step hb)
  clear hb S1 RR hC q0 q1 q2 q3 q4 q5 q6 q7 q8 q9 q10
  by_cases hc6 : 60 < C
  · have hc7 : decide (60 < C) = true := decide_eq_true hc6
    clear hc6
    go_wp2_with fail
    go_ret
    exact ⟨rfl, S2.out.b⟩
  have hc7 : decide (60 < C) = false := decide_eq_false hc6
  clear hc6
  obtain ⟨E, hE⟩ : ∃ z, chkV t = z := ⟨_, rfl⟩
  obtain ⟨l3, h3⟩ : ∃ z, (if chkV t = 0 then entsT t else []) = z := ⟨_, rfl⟩
  have H3 := Aside0.mk h3
  have HE := Aside0.mk hE
  clear hE h3
  obtain ⟨q0, q1, q2, q3, q4, q5, q6, q7, q8, q9, q10⟩ := S2.out.k.cells
  go_wp2_with fail
  have HC2 := exp_calls t d S2.out.r HS.out
  rw [H3.out, HE.out] at HC2
  unfold cells27 at HC2
  refine HC2.mono ?_
  rintro e w4 ⟨v3, rfl, hv, hb⟩
  have S3 := Aside0.mk (S2.out.step hb)
  obtain ⟨A3, c3, rfl⟩ := Kd.S_slice hv
  have Q3 := Aside0.mk (Kd.S_reads' hv)
  clear hb hv HC2 S2 hc7 q0 q1 q2 q3 q4 q5 q6 q7 q8 q9 q10
  obtain ⟨q0, q1, q2, q3, q4, q5, q6, q7, q8, q9, q10⟩ := S3.out.k.cells
  by_cases hz : E = 0
  · have hz1 : (E != 0) = false := bne_eq_false_iff_eq.mpr hz
    have h0 : chkV t = 0 := by rw [HE.out]; exact hz
    have hl : l3 = entsT t := by rw [← H3.out, if_pos h0]
    have HLN := Aside0.mk (show l3.length = tmN t by rw [hl]; simp [entsT])
    have HZ := Aside0.mk h0
    have HL := Aside0.mk hl
    have HN4 := Aside0.mk (good_of h0).n
    clear h0 hz hl
    go_wp2_with fail
    clear hz1 q0 q1 q2 q3 q4 q5 q6 q7 q8 q9 q10
    go_loopg [5] (tmN t + 1) (fun kq v5 w' => ∃ (i : Nat), v5 = .int .i64 (i : Int) ∧ Aside0 (kq = tmN t - i + 1) ∧ Aside0 (i ≤ tmN t) ∧ Aside0 (Below w4.heap.size w4 w'))
    case atStart => exact ⟨0, rfl, ⟨rfl⟩, ⟨Nat.zero_le _⟩, ⟨Below.refl _ _⟩⟩
    case round =>
      obtain ⟨i, rfl, HQ, HI, HB⟩ := hrel
      by_cases hj : i < tmN t
      · have hj1 : (i < l3.length) = True := eq_true (by rw [HLN.out]; exact hj)
        have hj2 : decide (i < l3.length) = true := decide_eq_true (by rw [HLN.out]; exact hj)
        have hj3 : decide ((i : Int) < (l3.length : Int)) = true := decide_eq_true (by rw [HLN.out]; omega)
        have HJ1 := Aside0.mk hj
        have e8 : wrap64 ((i : Int) + 1) = ((i + 1 : Nat) : Int) := by have := HN4.out; unfold wrap64; omega
        clear hj
        have S4 : Aside0 (St4 w wr g t d) := ⟨S3.out.step HB.out⟩
        obtain ⟨q0, q1, q2, q3, q4, q5, q6, q7, q8, q9, q10⟩ := S4.out.k.cells
        go_wp2_with fail
        have HC2 := look_calls t d S4.out.r HS.out (i : Int)
        rw [agr_look HZ.out HJ1.out] at HC2
        unfold cells27 cellsT at HC2
        dsimp only at HC2
        obtain ⟨x, hx⟩ : ∃ z, entT t i = z := ⟨_, rfl⟩
        rw [hx] at HC2
        have HXX := Aside0.mk hx
        have HX0 : Aside0 (dtsAt t.f0 (valG t.f1) i = x.f0) := ⟨by rw [← hx]; rfl⟩
        have HX4 : Aside0 (plAt t (msL t) i = x.f4) := ⟨by rw [← hx]; rfl⟩
        have HX5 : Aside0 ((ckOf (msL t) (i : Int) : Int) = x.f5) := ⟨by rw [← hx]; rfl⟩
        have HX6 : Aside0 (syF t i = x.f6) := ⟨by rw [← hx]; rfl⟩
        clear hx
        refine HC2.mono ?_
        rintro e w5 ⟨v6, rfl, hv, hb⟩
        have B5 := Aside0.mk (below_step HB.out hb)
        obtain ⟨A8, c8, rfl⟩ := Kd.R_slice hv
        clear hb hv HC2 S4 q0 q1 q2 q3 q4 q5 q6 q7 q8 q9 q10
        obtain ⟨w6, hw6⟩ : ∃ wz, w5.alloc (.cells #[.int .i64 x.f0, .int .i64 x.f1, .int .i64 x.f2, .int .i64 x.f3, .int .i64 x.f4, .int .i64 x.f5, .bool x.f6, .slice A8 x.f7.length c8] 48) = wz := ⟨_, rfl⟩
        obtain ⟨g6, hg6⟩ : ∃ rz, w5.heap.size = rz := ⟨_, rfl⟩
        have B6 : Aside0 (Below w4.heap.size w4 w6) := ⟨below_step B5.out (by rw [← hw6]; exact below_alloc (Below.refl _ _) _)⟩
        have K6 : Aside0 (w6.heap[g6]? = some (.cells #[.int .i64 x.f0, .int .i64 x.f1, .int .i64 x.f2, .int .i64 x.f3, .int .i64 x.f4, .int .i64 x.f5, .bool x.f6, .slice A8 x.f7.length c8] 48 (0, 0))) := ⟨by rw [← hw6, ← hg6]; exact blk_new w5 _⟩
        clear B5
        go_wp2_with fail
        clear hw6 hg6
        obtain ⟨a0, a1, a2, a3, a4, a5, a6, a7, -, -, -, -, -, -, -, -⟩ := bcells8 K6.out
        obtain ⟨ad, A9, c9, e0, y0, y1, y2, y3, y4, y5, y6, y7, -, -⟩ := at_T48 (Kd.C_below Q3.out.2.2 B6.out) (i : Int) (by omega) (by have := HJ1.out; rw [HLN.out]; omega)
        have hrd : rd_T48 l3 (i : Int) = x := by rw [HL.out, ← HXX.out]; exact rdT_ents HJ1.out
        rw [hrd] at y0 y3 y4 y6
        rw [Int.toNat_natCast] at y0 y3 y4 y6
        cases e0
        have n0 : (x.f0 != x.f0) = false := by simp
        have n3 : (x.f3 != x.f3) = false := by simp
        have n4 : (x.f4 != x.f4) = false := by simp
        have n6 : (x.f6 != x.f6) = false := by simp
        clear y1 y2 y5 y7 hrd
        go_quiet (fail)
        have B7 : Aside0 (Below w4.heap.size w4 (w6.drewN nq)) := ⟨pw_below_drewN B6.out nq⟩
        have K7 := Aside0.mk (blk_drewN K6.out nq)
        clear B6 K6 a0 a1 a2 a3 a4 a5 a6 a7 y0 y3 y4 y6 n0 n3 n4 n6
        generalize w6.drewN nq = w7 at B7 K7 ⊢
        have S7 : Aside0 (St4 w w7 g t d) := ⟨S3.out.step B7.out⟩
        obtain ⟨q0, q1, q2, q3, q4, q5, q6, q7, q8, q9, q10⟩ := S7.out.k.cells
        have a0 := (blk_cell K7.out 0).trans rfl
        go_wp2_with fail
        have HC2 := atP_calls t d S7.out.r HS.out (dtsAt t.f0 (valG t.f1) i)
        rw [agr_at HZ.out HJ1.out, HX0.out] at HC2
        unfold cells27 at HC2
        dsimp only at HC2
        refine HC2.mono ?_
        rintro e w8 ⟨rfl, hb⟩
        have B8 := Aside0.mk (below_step B7.out hb)
        have K8 := Aside0.mk (blk_below K7.out hb)
        clear hb HC2 S7 B7 K7 a0 q0 q1 q2 q3 q4 q5 q6 q7 q8 q9 q10
        have S8 : Aside0 (St4 w w8 g t d) := ⟨S3.out.step B8.out⟩
        obtain ⟨q0, q1, q2, q3, q4, q5, q6, q7, q8, q9, q10⟩ := S8.out.k.cells
        have a5 := (blk_cell K8.out 5).trans rfl
        have ni : ((i : Int) != (i : Int)) = false := by simp
        go_wp2_with fail
        obtain ⟨F, M, pl, by', hch, hF, hM, hF0, hFM, hpl, hpe⟩ := agr_chunk HZ.out HJ1.out
        rw [HX4.out] at hpl hpe
        have HC2 := chP_calls t d S8.out.r HS.out (ckOf (msL t) (i : Int) : Int)
        rw [hch, HX5.out] at HC2
        unfold cells27 at HC2
        dsimp only at HC2
        refine HC2.mono ?_
        rintro e w9 ⟨rfl, hb⟩
        have B9 := Aside0.mk (below_step B8.out hb)
        have K9 := Aside0.mk (blk_below K8.out hb)
        have t1 : decide ((i : Int) < F) = false := decide_eq_false (by omega)
        have t2 : wrap64 (F + M) = F + M := by unfold wrap64; omega
        have t3 : decide (F + M ≤ (i : Int)) = false := decide_eq_false (by omega)
        have t4 : decide (x.f4 < pl) = false := decide_eq_false (by omega)
        have HPE := Aside0.mk hpe
        clear hb HC2 S8 B8 K8 a5 ni hch hF hM hF0 hFM hpl hpe q0 q1 q2 q3 q4 q5 q6 q7 q8 q9 q10
        have S9 : Aside0 (St4 w w9 g t d) := ⟨S3.out.step B9.out⟩
        obtain ⟨q0, q1, q2, q3, q4, q5, q6, q7, q8, q9, q10⟩ := S9.out.k.cells
        have a4 := (blk_cell K9.out 4).trans rfl
        go_upto_region 16 with fail
        go_cut [147] from 117 to 147 (fun v147 w' => v147 = .bool false ∧ Aside0 (w' = w9))
        case first =>
          by_cases hie : (i : Int) = F
          · have t5 : ((i : Int) == F) = true := beq_iff_eq.mpr hie
            have t6 : (x.f4 != pl) = false := bne_eq_false_iff_eq.mpr (HPE.out hie)
            clear hie
            go_wp2_with fail
            go_meet
            case rel => exact ⟨rfl, ⟨rfl⟩⟩
          · have t5 : ((i : Int) == F) = false := beq_eq_false_iff_ne.mpr hie
            clear hie
            go_wp2_with fail
            go_meet
            case rel => exact ⟨rfl, ⟨rfl⟩⟩
        case rest =>
        obtain ⟨rfl, hw⟩ := hcut
        obtain rfl := hw.out
        clear hw t1 t2 t3 t4 a4
        go_wp2_with fail
        have HC2 := bfP_calls t d S9.out.r HS.out (i : Int)
        rw [agr_bf HZ.out HJ1.out] at HC2
        unfold cells27 at HC2
        dsimp only at HC2
        have hbr := bfG_rng (f := syF t) i
        have hby := bfG_yes (f := syF t) (i := i)
        rw [HX6.out] at hby
        obtain ⟨s, hs⟩ : ∃ z, bfG (syF t) i = z := ⟨_, rfl⟩
        rw [hs] at HC2 hbr hby
        obtain ⟨hb0, hb1, hb2⟩ := hbr
        refine HC2.mono ?_
        rintro e w10 ⟨rfl, hb⟩
        have B10 := Aside0.mk (below_step B9.out hb)
        have K10 := Aside0.mk (blk_below K9.out hb)
        clear hb HC2 S9 B9 K9 hs q0 q1 q2 q3 q4 q5 q6 q7 q8 q9 q10
        have a6 := (blk_cell K10.out 6).trans rfl
        have u1 : decide ((i : Int) < s) = false := decide_eq_false (by omega)
        have HBY := Aside0.mk hby
        have HB2 := Aside0.mk hb2
        go_upto_region 19 with fail
        go_cut [181] from 154 to 181 (fun v181 w' => v181 = .bool false ∧ Aside0 (w' = w10))
        case first =>
          obtain ⟨b6, hb6⟩ : ∃ z, x.f6 = z := ⟨_, rfl⟩
          rw [hb6] at a6 HBY
          clear hb6
          by_cases hs0 : 0 ≤ s
          · obtain ⟨m, rfl⟩ : ∃ m : Nat, s = (m : Int) := ⟨s.toNat, by omega⟩
            have u2 : decide ((0 : Int) ≤ (m : Int)) = true := decide_eq_true hs0
            have hml : m < tmN t := by have := HJ1.out; omega
            obtain ⟨ad', A9', c9', e0', -, -, -, -, -, -, z6, -, -, -⟩ := at_T48 (Kd.C_below Q3.out.2.2 B10.out) (m : Int) (by omega) (by rw [HLN.out]; omega)
            cases e0'
            have hrd : rd_T48 l3 (m : Int) = entT t m := by rw [HL.out]; exact rdT_ents hml
            have hf6 : (entT t m).f6 = true := HB2.out m rfl
            rw [hrd, hf6, Int.toNat_natCast] at z6
            have u3 : (m < l3.length) = True := eq_true (by rw [HLN.out]; exact hml)
            have u4 : decide ((i : Int) < (m : Int)) = false := u1
            have u5 : decide (i < m) = false := decide_eq_false (by omega)
            cases b6 with
            | true =>
              have hsi : (m : Int) = (i : Int) := HBY.out rfl
              have u6 : ((m : Int) != (i : Int)) = false := bne_eq_false_iff_eq.mpr hsi
              clear hsi hml hrd hf6 hb0 hb1 hb2 hby hs0 u1 u4
              go_wp2_with fail
              go_meet
              case rel => exact ⟨by first | rfl | simp, ⟨rfl⟩⟩
            | false =>
              clear hml hrd hf6 hb0 hb1 hb2 hby hs0 u1 u4
              go_wp2_with fail
              go_meet
              case rel => exact ⟨by first | rfl | simp, ⟨rfl⟩⟩
          · have u2 : decide ((0 : Int) ≤ s) = false := decide_eq_false hs0
            cases b6 with
            | true =>
              have hsi : s = (i : Int) := HBY.out rfl
              omega
            | false =>
              clear hb0 hb1 hb2 hby hs0
              go_wp2_with fail
              go_meet
              case rel => exact ⟨by first | rfl | simp, ⟨rfl⟩⟩
        case rest =>
        obtain ⟨rfl, hw⟩ := hcut
        obtain rfl := hw.out
        go_wp2_with fail
        go_roundg (tmN t - (i + 1) + 1)
        case measure => have := HQ.out; have := HJ1.out; omega
        case rel => exact ⟨i + 1, by first | rfl | rw [e8], ⟨rfl⟩, ⟨HJ1.out⟩, B10⟩
      · have hj1 : (i < l3.length) = False := eq_false (by rw [HLN.out]; exact hj)
        have hj2 : decide (i < l3.length) = false := decide_eq_false (by rw [HLN.out]; exact hj)
        have hj3 : decide ((i : Int) < (l3.length : Int)) = false := decide_eq_false (by rw [HLN.out]; omega)
        clear hj
        go_wp2_with fail
        refine (awake_calls (w := wr)).mono ?_
        rintro e w11 ⟨rfl, hb⟩
        have B11 := Aside0.mk (below_step (below_step S3.out.b HB.out) hb)
        clear hb
        go_wp2_with fail
        go_ret
        exact ⟨rfl, B11.out⟩
  · have hz1 : (E != 0) = true := bne_iff_ne.mpr hz
    clear hz
    go_wp2_with fail
    have HC2 := rchk_calls t d S3.out.r HS.out
    rw [HE.out] at HC2
    unfold cells27 at HC2
    refine HC2.mono ?_
    rintro e w5 ⟨rfl, hb⟩
    have B5 := Aside0.mk (below_step S3.out.b hb)
    clear hb HC2 S3 q0 q1 q2 q3 q4 q5 q6 q7 q8 q9 q10
    have he : (E == E) = true := by simp
    go_wp2_with fail
    refine (awake_calls (w := w5)).mono ?_
    rintro e w11 ⟨rfl, hb⟩
    have B11 := Aside0.mk (below_step B5.out hb)
    clear hb B5
    go_wp2_with fail
    go_ret
    exact ⟨rfl, B11.out⟩
def dioramalaw09_TableAgree.f (a0_0 : Int) (l0_1 : List S83) (l0_2 : List S83) (l0_3 : List Int) (a0_4 : Bool) (a0_5 : Int) (l0_6 : List Int) (l0_7 : List S86) (l0_8 : List Int) (l0_9 : List S83) (l0_10 : List (List Int)) : Option Bool := some true
theorem dioramalaw09_TableAgree.calls (a0_0 : Int) (A0_1 : Option Addr) (c0_1 : Nat) (l0_1 : List S83) (A0_2 : Option Addr) (c0_2 : Nat) (l0_2 : List S83) (A0_3 : Option Addr) (c0_3 : Nat) (l0_3 : List Int) (a0_4 : Bool) (a0_5 : Int) (A0_6 : Option Addr) (c0_6 : Nat) (l0_6 : List Int) (A0_7 : Option Addr) (c0_7 : Nat) (l0_7 : List S86) (A0_8 : Option Addr) (c0_8 : Nat) (l0_8 : List Int) (A0_9 : Option Addr) (c0_9 : Nat) (l0_9 : List S83) (A0_10 : Option Addr) (c0_10 : Nat) (l0_10 : List (List Int)) (r : Bool) (w : World) (hr0_1 : Kd.C k83 w A0_1 l0_1.length l0_1) (hc0_1 : l0_1.length ≤ c0_1) (hr0_2 : Kd.C k83 w A0_2 l0_2.length l0_2) (hc0_2 : l0_2.length ≤ c0_2) (hr0_3 : Kd.C (Kd.int .i64) w A0_3 l0_3.length l0_3) (hc0_3 : l0_3.length ≤ c0_3) (hr0_6 : Kd.C (Kd.int .i64) w A0_6 l0_6.length l0_6) (hc0_6 : l0_6.length ≤ c0_6) (hr0_7 : Kd.C k86 w A0_7 l0_7.length l0_7) (hc0_7 : l0_7.length ≤ c0_7) (hr0_8 : Kd.C (Kd.int .i64) w A0_8 l0_8.length l0_8) (hc0_8 : l0_8.length ≤ c0_8) (hr0_9 : Kd.C k83 w A0_9 l0_9.length l0_9) (hc0_9 : l0_9.length ≤ c0_9) (hr0_10 : Kd.C (Kd.slice 3 (Kd.int .i64)) w A0_10 l0_10.length l0_10) (hc0_10 : l0_10.length ≤ c0_10) (h : dioramalaw09_TableAgree.f a0_0 l0_1 l0_2 l0_3 a0_4 a0_5 l0_6 l0_7 l0_8 l0_9 l0_10 = some r) :
    Calls Try.prog 7 #[.agg #[.int .i64 a0_0, .slice A0_1 l0_1.length c0_1, .slice A0_2 l0_2.length c0_2, .slice A0_3 l0_3.length c0_3, .bool a0_4, .int .i64 a0_5, .slice A0_6 l0_6.length c0_6, .slice A0_7 l0_7.length c0_7, .slice A0_8 l0_8.length c0_8, .slice A0_9 l0_9.length c0_9, .slice A0_10 l0_10.length c0_10]] w fun e w' => e = .returned (.bool r) ∧ Below w.heap.size w w' := by
  cases h
  exact agree_calls (⟨a0_0, l0_1, l0_2, l0_3, a0_4, a0_5, l0_6, l0_7, l0_8, l0_9, l0_10⟩ : S27) (⟨A0_1, c0_1, A0_2, c0_2, A0_3, c0_3, A0_6, c0_6, A0_7, c0_7, A0_8, c0_8, A0_9, c0_9, A0_10, c0_10⟩ : D27) ⟨hr0_1, hr0_2, hr0_3, hr0_6, hr0_7, hr0_8, hr0_9, hr0_10, hc0_1, hc0_2, hc0_3, hc0_6, hc0_7, hc0_8, hc0_9, hc0_10⟩
end Go.Proofs.Ytmbhafgnmdfjhaa.QTab
