/- A lemma file: the law BitsWrites. No condition. -/
import Derived.Test.YtlhdfdedhdcmiaaLA
import Derived.Deep.CutRange
import Derived.Test.YtlhdfdedhdcmiaaPEqb
namespace Go.Proofs.Ytlhdfdedhdcmiaa.QBits
open Go.RowKit Go.Proofs.YtlhdfdedhdcmiaaW.PrintWords Go.Proofs.YtlhdfdedhdcmiaaW.PrintLast Go.Proofs.YtlhdfdedhdcmiaaW.PrintMore Go.Proofs.YtlhdfdedhdcmiaaV
set_option linter.unusedVariables false
set_option linter.unusedSimpArgs false
theorem isX_new (w0 w1 : World) (hb : Below w0.heap.size w0 w1) : IsX (w1.alloc (.cells #[.slice none 0 0] 67)) w0.heap.size (footX w1.heap.size (.slice none 0 0)) w1.heap.size [] :=
  ⟨_, ⟨by simpa using heap_alloc_new w1 (.cells #[.slice none 0 0] 67), own_nil _ _ _ _, hb.size⟩, rfl⟩
def skipF (o : S56) : Bool := (o.f0 == 1 && decide (2000 < o.f1) && decide (o.f1 ≤ 65535)) || (o.f0 == 2 && decide (0 ≤ o.f1) && decide (o.f1 ≤ 24) && decide (2000 < o.f2 / 2 ^ o.f1.toNat) && decide (o.f2 / 2 ^ o.f1.toNat ≤ 65535))
def opsOk (l : List S56) : Bool := l.all fun o => decide (o.f1 ≤ 9223372036854775807) && decide (o.f2 ≤ 9223372036854775807)
def dioramalaw01_BitsWrites.f (k : Nat) (l0 : List S56) : Option (Bool) :=
  if (l0.length : Int) > 200 then some true else if opsOk l0 = true then dioramalaw01_awake.f k else none
theorem opsOk_at {l : List S56} {i : Nat} (hi : i < l.length) (h : opsOk l = true) : (rd_T56 l (i : Int)).f1 ≤ 9223372036854775807 ∧ (rd_T56 l (i : Int)).f2 ≤ 9223372036854775807 := by
  have h1 := List.all_eq_true.mp h l[i] (List.getElem_mem hi)
  have e : rd_T56 l (i : Int) = l[i] := by
    unfold rd_T56
    rw [Int.toNat_natCast, List.getD_eq_getElem?_getD, List.getElem?_eq_getElem hi]
    rfl
  rw [e]
  simpa using h1
set_option maxHeartbeats 4000000 in
set_option maxRecDepth 100000 in
theorem dioramalaw01_BitsWrites.calls (k : Nat) (A0 : Option Addr) (c0 : Nat) (l0 : List S56) (r : Bool) (w : World) (hr0 : Kd.C k56 w A0 l0.length l0) (hc0 : l0.length ≤ c0) (h : dioramalaw01_BitsWrites.f k l0 = some r) :
    Calls Try.prog 10 #[.slice A0 l0.length c0] w fun e w' => e = .returned (.bool r) ∧ Below w.heap.size w w' := by
  have HR0 := Aside0.mk hr0
  have HC0 := Aside0.mk hc0
  clear hr0 hc0
  unfold dioramalaw01_BitsWrites.f at h
  by_cases c2 : (l0.length : Int) > 200
  · rw [if_pos c2] at h
    obtain rfl := Option.some.inj h
    have c2b0 : decide (200 < (l0.length : Int)) = true := decide_eq_true c2
    have c2b1 : decide (200 < l0.length) = true := decide_eq_true (by omega)
    clear c2
    go_enter Try.func10, Try.ntmps10
    go_wp2
    go_ret
    exact ⟨rfl, Below.refl _ _⟩
  · rw [if_neg c2] at h
    have c2b0 : decide (200 < (l0.length : Int)) = false := decide_eq_false c2
    have c2b1 : decide (200 < l0.length) = false := decide_eq_false (by omega)
    have hL := Aside0.mk (show l0.length ≤ 200 by omega)
    clear c2
    by_cases c3 : opsOk l0 = true
    · rw [if_pos c3] at h
      have HW := Aside0.mk h
      have HO := Aside0.mk c3
      clear h c3
      go_enter Try.func10, Try.ntmps10
      go_wp2_with fail
      refine (new_calls _).mono ?_
      rintro e w1 ⟨g, F, rfl, hI, hB⟩
      have HI := Aside0.mk hI
      have HB := Aside0.mk hB
      clear hI hB
      go_wp2_with fail
      go_loopg [5] (l0.length + 1) (fun kq v5 w' => ∃ (i : Nat) (F G : Nat → Prop) (B : List Bool), v5 = .int .i64 (i : Int) ∧ Aside0 (kq = l0.length - i + 1) ∧ Aside0 (IsW w' w.heap.size F g B) ∧ Aside0 (IsX w' w.heap.size G w1.heap.size B) ∧ Aside0 (Below w.heap.size w w') ∧ Aside0 (∀ k, F k → ¬ G k) ∧ Aside0 (B.length ≤ 8388608))
      case atStart =>
        refine ⟨0, F, _, [], rfl, ⟨rfl⟩, ⟨HI.out.below (below_alloc (Below.refl _ _) _)⟩, ⟨isX_new w w1 HB.out⟩, ⟨below_alloc HB.out _⟩, ⟨?_⟩, ⟨by simp⟩⟩
        intro k hk hx
        have h1 := (HI.out.ge k hk).2
        rcases hx with rfl | hx
        · exact Nat.lt_irrefl _ h1
        · simp [Value.ownBlock] at hx
      case round =>
        obtain ⟨i, Fi, Gi, B, rfl, HQ, HIw, HIx, HBw, HFG, HBl⟩ := hrel
        by_cases hi : i < l0.length
        · obtain ⟨ad, e0, x0, x1, x2⟩ := at_T56 (Kd.C_below HR0.out HBw.out) (i : Int) (by omega) (by omega)
          cases e0
          rw [Int.toNat_natCast] at x0 x1 x2
          have hi1 : decide ((i : Int) < (l0.length : Int)) = true := decide_eq_true (by omega)
          have hi2 : decide (i < l0.length) = true := decide_eq_true hi
          have HI1 := Aside0.mk hi
          have HOK := Aside0.mk (opsOk_at hi HO.out)
          generalize rd_T56 l0 (i : Int) = o at x0 x1 x2 HOK
          have R0 := Aside0.mk (WX.mk (o := o) (b := wr.heap.size) (HIw.out.below (below_alloc (Below.refl _ _) _)) (HIx.out.below (below_alloc (Below.refl _ _) _)) (by simpa using heap_alloc_new wr (.cells #[.int .i64 o.f0, .int .i64 o.f1, .int .i64 o.f2] 56)) (below_alloc HBw.out _) (Nat.le_trans HBw.out.size (below_alloc (Below.refl _ wr) (.cells #[.int .i64 o.f0, .int .i64 o.f1, .int .i64 o.f2] 56)).size) HFG.out (fun hk => Nat.lt_irrefl _ (HIw.out.ge _ hk).2) (fun hk => Nat.lt_irrefl _ (HIx.out.ge _ hk).2))
          go_upto_region 11 with fail
          go_cut [70] from 21 to 87 (fun s70 w' => s70 = .bool (skipF o) ∧ Aside0 (w' = wr.alloc (.cells #[.int .i64 o.f0, .int .i64 o.f1, .int .i64 o.f2] 56)))
          case first =>
            by_cases a1 : o.f0 = 1
            · have p1 : (o.f0 == 1) = true := beq_iff_eq.mpr a1
              have HA1 := Aside0.mk a1
              have p1n : (o.f0 == 2) = false := beq_eq_false_iff_ne.mpr (by omega)
              have hsk : skipF o = (decide (2000 < o.f1) && decide (o.f1 ≤ 65535)) := by simp [skipF, p1, p1n]
              clear a1
              by_cases a2 : 2000 < o.f1
              · have p2 : decide (2000 < o.f1) = true := decide_eq_true a2
                clear a2
                by_cases a3 : o.f1 ≤ 65535
                · have p3 : decide (o.f1 ≤ 65535) = true := decide_eq_true a3
                  rw [p2, p3] at hsk
                  have HSK := Aside0.mk hsk
                  clear a3 hsk
                  go_wp2_with fail
                  go_meet
                  case rel => exact ⟨by rw [HSK.out]; first | rfl | (have h9 := HA8.out; simp; omega), ⟨by first | rfl | rw [HA1.out] | rw [HA4.out]⟩⟩
                · have p3 : decide (o.f1 ≤ 65535) = false := decide_eq_false a3
                  rw [p2, p3] at hsk
                  have HSK := Aside0.mk hsk
                  clear a3 hsk
                  go_wp2_with fail
                  go_meet
                  case rel => exact ⟨by rw [HSK.out]; first | rfl | (have h9 := HA8.out; simp; omega), ⟨by first | rfl | rw [HA1.out] | rw [HA4.out]⟩⟩
              · have p2 : decide (2000 < o.f1) = false := decide_eq_false a2
                rw [p2] at hsk
                have HSK := Aside0.mk hsk
                clear a2 hsk
                go_wp2_with fail
                go_meet
                case rel => exact ⟨by rw [HSK.out]; first | rfl | (have h9 := HA8.out; simp; omega), ⟨by first | rfl | rw [HA1.out] | rw [HA4.out]⟩⟩
            · have p1 : (o.f0 == 1) = false := beq_eq_false_iff_ne.mpr a1
              clear a1
              by_cases a4 : o.f0 = 2
              · have p4 : (o.f0 == 2) = true := beq_iff_eq.mpr a4
                have HA4 := Aside0.mk a4
                clear a4
                have hsk : skipF o = (decide (0 ≤ o.f1) && decide (o.f1 ≤ 24) && decide (2000 < o.f2 / 2 ^ o.f1.toNat) && decide (o.f2 / 2 ^ o.f1.toNat ≤ 65535)) := by simp [skipF, p1, p4]
                by_cases a5 : 0 ≤ o.f1
                · have p5 : decide (0 ≤ o.f1) = true := decide_eq_true a5
                  have HA5 := Aside0.mk a5
                  clear a5
                  by_cases a6 : o.f1 ≤ 24
                  · have p6 : decide (o.f1 ≤ 24) = true := decide_eq_true a6
                    have eu : IntKind.u64.wrap o.f1 = o.f1 := by have := HA5.out; rw [IntKind.wrap_u64]; omega
                    have em : min o.f1.toNat 64 = o.f1.toNat := by have := HA5.out; omega
                    have q5 := eq_true HA5.out
                    clear a6
                    by_cases a7 : 2000 < o.f2 / 2 ^ o.f1.toNat
                    · have p7 : decide (2000 < o.f2 / 2 ^ o.f1.toNat) = true := decide_eq_true a7
                      clear a7
                      by_cases a8 : o.f2 / 2 ^ o.f1.toNat ≤ 65535
                      · have p8 : decide (o.f2 / 2 ^ o.f1.toNat ≤ 65535) = true := decide_eq_true a8
                        have HA8 := Aside0.mk a8
                        rw [p5, p6, p7, p8] at hsk
                        have HSK := Aside0.mk hsk
                        clear a8 hsk
                        go_wp2_with fail
                        go_meet
                        case rel => exact ⟨by rw [HSK.out]; first | rfl | (have h9 := HA8.out; simp; omega), ⟨by first | rfl | rw [HA1.out] | rw [HA4.out]⟩⟩
                      · have p8 : decide (o.f2 / 2 ^ o.f1.toNat ≤ 65535) = false := decide_eq_false a8
                        have HA8 := Aside0.mk a8
                        rw [p5, p6, p7, p8] at hsk
                        have HSK := Aside0.mk hsk
                        clear a8 hsk
                        go_wp2_with fail
                        go_meet
                        case rel => exact ⟨by rw [HSK.out]; first | rfl | (have h9 := HA8.out; simp; omega), ⟨by first | rfl | rw [HA1.out] | rw [HA4.out]⟩⟩
                    · have p7 : decide (2000 < o.f2 / 2 ^ o.f1.toNat) = false := decide_eq_false a7
                      rw [p5, p6, p7] at hsk
                      have HSK := Aside0.mk hsk
                      clear a7 hsk
                      go_wp2_with fail
                      go_meet
                      case rel => exact ⟨by rw [HSK.out]; first | rfl | (have h9 := HA8.out; simp; omega), ⟨by first | rfl | rw [HA1.out] | rw [HA4.out]⟩⟩
                  · have p6 : decide (o.f1 ≤ 24) = false := decide_eq_false a6
                    rw [p5, p6] at hsk
                    have HSK := Aside0.mk hsk
                    clear a6 hsk
                    go_wp2_with fail
                    go_meet
                    case rel => exact ⟨by rw [HSK.out]; first | rfl | (have h9 := HA8.out; simp; omega), ⟨by first | rfl | rw [HA1.out] | rw [HA4.out]⟩⟩
                · have p5 : decide (0 ≤ o.f1) = false := decide_eq_false a5
                  rw [p5] at hsk
                  have HSK := Aside0.mk hsk
                  clear a5 hsk
                  go_wp2_with fail
                  go_meet
                  case rel => exact ⟨by rw [HSK.out]; first | rfl | (have h9 := HA8.out; simp; omega), ⟨by first | rfl | rw [HA1.out] | rw [HA4.out]⟩⟩
              · have p4 : (o.f0 == 2) = false := beq_eq_false_iff_ne.mpr a4
                have hsk : skipF o = false := by simp [skipF, p1, p4]
                have HSK := Aside0.mk hsk
                clear a4 hsk
                go_wp2_with fail
                go_meet
                case rel => exact ⟨by rw [HSK.out], ⟨by first | rfl | rw [HA1.out] | rw [HA4.out]⟩⟩
          case rest =>
            obtain ⟨rfl, HWC⟩ := hcut
            have R1 : Aside0 (WX w w.heap.size g w1.heap.size wr.heap.size o wc Fi Gi B B) := ⟨by rw [HWC.out]; exact R0.out⟩
            clear HWC R0
            have e8 : wrap64 ((i : Int) + 1) = ((i + 1 : Nat) : Int) := by have := HI1.out; have := hL.out; unfold wrap64; omega
            cases hsk : skipF o with
            | true =>
              go_wp2_with fail
              go_roundg (l0.length - (i + 1) + 1)
              case measure => have := HQ.out; have := HI1.out; omega
              case rel =>
                exact ⟨i + 1, Fi, Gi, B, by rw [e8], ⟨rfl⟩, ⟨R1.out.w⟩, ⟨R1.out.x⟩, ⟨R1.out.bel⟩, ⟨R1.out.n1⟩, HBl⟩
            | false =>
              obtain ⟨y0, y1, y2⟩ := R1.out.cells
              have R1d := Aside0.mk (R1.out.below (below_drew (Below.refl _ _)))
              go_wp2_with fail
              go_region_with (first
                | (go_at_call 52; refine (write_calls R1d.out.w R1d.out.le HBl.out o HOK.out.2).mono ?_; rintro e w2 ⟨rfl, F2, I2, M2⟩; have R2 := Aside0.mk (R1d.out.stepW I2 M2); obtain ⟨z0, z1, z2⟩ := R2.out.cells; clear I2 M2)
                | (go_at_call 53; refine (written_calls R2.out.x R2.out.le HBl.out o HOK.out.2).mono ?_; rintro e w3 ⟨rfl, G2, I3, M3⟩; have R3 := Aside0.mk (R2.out.stepX I3 M3); obtain ⟨Ax, cx, bx⟩ := R3.out.bits; clear I3 M3)
                | (go_at_call 54; refine (wLen_calls R3.out.w).mono ?_; rintro e w4 ⟨rfl, m4, rfl⟩))
              all_goals (
                go_wp2_with fail
                go_roundg (l0.length - (i + 1) + 1)
                case measure => have := HQ.out; have := HI1.out; omega
                case rel => exact ⟨i + 1, F2, G2, (writeF o B).2, by rw [e8], ⟨rfl⟩, ⟨R3.out.w.drewN _⟩, ⟨R3.out.x.drewN _⟩, ⟨pw_below_drewN R3.out.bel _⟩, ⟨R3.out.n1⟩, ⟨writeF_length o B HBl.out HOK.out.2⟩⟩)
        · have hi1 : decide ((i : Int) < (l0.length : Int)) = false := decide_eq_false (by omega)
          have hi2 : decide (i < l0.length) = false := decide_eq_false hi
          have R1 := Aside0.mk (HIx.out)
          have W1 := Aside0.mk (HIw.out)
          clear hi
          obtain ⟨ke, hke⟩ := (Go.Proofs.Ytlhdfdedhdcmiaa.PureB.eqb_ev (l := packB B) (u := packB B) (by have := HBl.out; rw [packB_length]; omega)).rounds
          have HKE := Aside0.mk hke
          clear hke
          go_wp2_with fail
          go_region_with (first
            | (go_at_call 55; refine (bytes_calls (HIw.out.below (below_drew (Below.refl _ _))) (by have := HBl.out; omega)).mono ?_; rintro e w2 ⟨v0, rfl, o0, b0⟩; obtain ⟨Aa, ca, rfl⟩ := Kd.R_slice o0; have O0 := Aside0.mk o0; have B0 := Aside0.mk b0; have W2 := Aside0.mk ((HIw.out.below (below_drew (Below.refl _ _))).below b0); have X2 := Aside0.mk ((HIx.out.below (below_drew (Below.refl _ _))).below b0); clear o0 b0)
            | (go_at_call 56; refine (xbytes_calls X2.out (by have := HBl.out; omega)).mono ?_; rintro e w3 ⟨v1, rfl, o1, b1⟩; obtain ⟨Ab, cb, rfl⟩ := Kd.R_slice o1; have O1 := Aside0.mk o1; have B1 := Aside0.mk b1; have W3 := Aside0.mk (W2.out.below b1); have X3 := Aside0.mk (X2.out.below b1); clear o1 b1)
            | (go_at_call 26; refine (dioramaref00_EqBytes.calls ke Aa ca (packB B) Ab cb (packB B) true _ (Kd.C_below (Kd.R_reads' O0.out).2.2 B1.out) (Kd.R_reads' O0.out).2.1 (Kd.R_reads' O1.out).2.2 (Kd.R_reads' O1.out).2.1 (by rw [HKE.out]; simp)).mono ?_; rintro e w4 ⟨rfl, ⟨m4, rfl⟩⟩; obtain ⟨vx, hx, _⟩ := X3.out; obtain ⟨Ax, cx, rfl⟩ := own_slice hx.row; have bx : w3.cell? ⟨w1.heap.size, 0, none⟩ = some (.slice Ax B.length cx) := (blk_cell hx.hg 0).trans rfl; clear hx)
            | (go_at_call 54; refine (wLen_calls (W3.out.drewN m4)).mono ?_; rintro e w5 ⟨rfl, m5, rfl⟩)
            | (go_at_call 15; refine (dioramalaw01_awake.calls k r _ HW.out).mono ?_; rintro e w6 ⟨rfl, b6⟩))
          all_goals (
            go_wp2_with fail
            go_ret
            exact ⟨rfl, below_step (by repeat (first | exact below_step (below_step (below_drew HBw.out) B0.out) B1.out | apply pw_below_drewN)) b6⟩)
    · rw [if_neg c3] at h; cases h
end Go.Proofs.Ytlhdfdedhdcmiaa.QBits
