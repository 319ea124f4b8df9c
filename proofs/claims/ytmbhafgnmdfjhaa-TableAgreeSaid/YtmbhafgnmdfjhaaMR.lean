/- A lemma file: dioramaref09.ranges, walked. No condition. A lemma file: dioramaref09.chunked, walked. No condition. A lemma file: dioramaref09.counts, walked. No condition. A lemma file: dioramaref09.Check, walked. No condition. -/
import Derived.Test.YtmbhafgnmdfjhaaMC
import Derived.Test.YtmbhafgnmdfjhaaQTabx10
import Derived.Test.YtmbhafgnmdfjhaaQTabx9
import Derived.Test.YtmbhafgnmdfjhaaQTabx9
import Derived.Test.YtmbhafgnmdfjhaaQTabx9
import Derived.Test.YtmbhafgnmdfjhaaQTabx12
import Derived.Test.YtmbhafgnmdfjhaaQTabx13
namespace Go.Proofs.Ytmbhafgnmdfjhaa.QTab
open Go.RowKit Go.Proofs.YtmbhafgnmdfjhaaW.PrintWords Go.Proofs.YtmbhafgnmdfjhaaW.PrintLast Go.Proofs.YtmbhafgnmdfjhaaW.PrintMore Go.Proofs.YtmbhafgnmdfjhaaV
set_option linter.unusedVariables false
set_option linter.unusedSimpArgs false
theorem in_f (v a b : Int) : dioramaref09_in.f v a b = some (decide (a ≤ v) && decide (v ≤ b)) := by
  unfold dioramaref09_in.f
  by_cases h : v ≥ a
  · rw [if_pos h, decide_eq_true h]; simp
  · rw [if_neg h, decide_eq_false h]; simp
def rg1 (t : S27) : Bool := inT t.f0 && (!(t.f1.any (badR 0 2199023255552)) && (!(t.f9.any (badR 0 1099511627776)) && (!(t.f2.any (badR (-2199023255552) 2199023255552)) && (decide ((0 : Int) ≤ t.f5) && decide (t.f5 ≤ 65536)))))
theorem rg_eq (t : S27) : rgB t = (rg1 t && (!(t.f6.any (badN 65536)) && (!(t.f8.any (badN 1048576)) && !(t.f7.any badC)))) := by
  unfold rgB rangesB rg1 inT
  generalize t.f1.any _ = b1
  generalize t.f2.any _ = b2
  generalize t.f9.any _ = b9
  generalize t.f6.any _ = b6
  generalize t.f8.any _ = b8
  generalize t.f7.any _ = b7
  generalize decide ((-1099511627776 : Int) ≤ t.f0) = c1
  generalize decide (t.f0 ≤ 1099511627776) = c2
  generalize decide ((0 : Int) ≤ t.f5) = c3
  generalize decide (t.f5 ≤ 65536) = c4
  cases b1 <;> cases b2 <;> cases b9 <;> cases b6 <;> cases b8 <;> cases b7 <;> cases c1 <;> cases c2 <;> cases c3 <;> cases c4 <;> rfl
structure RunsOk (k : Nat) (t : S27) : Prop where
  r1 : dioramaref09_runs.f k t.f1 0 2199023255552 = some (!(t.f1.any (badR 0 2199023255552)))
  r9 : dioramaref09_runs.f k t.f9 0 1099511627776 = some (!(t.f9.any (badR 0 1099511627776)))
  r2 : dioramaref09_runs.f k t.f2 (-2199023255552) 2199023255552 = some (!(t.f2.any (badR (-2199023255552) 2199023255552)))
set_option maxRecDepth 100000 in
set_option maxHeartbeats 2000000 in
theorem rranges_calls {w : World} (k : Nat) (t : S27) (d : D27) (hr : R27 w t d) (h : RunsOk k t) :
    Calls Try.prog 49 #[.agg (cells27 t d)] w fun e w' => e = .returned (.bool (rgB t)) ∧ Below w.heap.size w w' := by
  rw [rg_eq]
  have HR := Aside0.mk hr
  obtain ⟨b1, hb1⟩ : ∃ z, t.f1.any (badR 0 2199023255552) = z := ⟨_, rfl⟩
  obtain ⟨b9, hb9⟩ : ∃ z, t.f9.any (badR 0 1099511627776) = z := ⟨_, rfl⟩
  obtain ⟨b2, hb2⟩ : ∃ z, t.f2.any (badR (-2199023255552) 2199023255552) = z := ⟨_, rfl⟩
  obtain ⟨c1, hc1⟩ : ∃ z, inT t.f0 = z := ⟨_, rfl⟩
  obtain ⟨c5, hc5⟩ : ∃ z, (decide ((0 : Int) ≤ t.f5) && decide (t.f5 ≤ 65536)) = z := ⟨_, rfl⟩
  have I1 : Aside0 (dioramaref09_in.f t.f0 (-1099511627776) 1099511627776 = some c1) := ⟨by rw [in_f, ← hc1]; rfl⟩
  have I5 : Aside0 (dioramaref09_in.f t.f5 0 65536 = some c5) := ⟨by rw [in_f, ← hc5]⟩
  have R1 : Aside0 (dioramaref09_runs.f k t.f1 0 2199023255552 = some (!b1)) := ⟨by rw [h.r1, hb1]⟩
  have R9 : Aside0 (dioramaref09_runs.f k t.f9 0 1099511627776 = some (!b9)) := ⟨by rw [h.r9, hb9]⟩
  have R2 : Aside0 (dioramaref09_runs.f k t.f2 (-2199023255552) 2199023255552 = some (!b2)) := ⟨by rw [h.r2, hb2]⟩
  have EG : Aside0 (rg1 t = (c1 && (!b1 && (!b9 && (!b2 && c5))))) := ⟨by rw [rg1, hb1, hb9, hb2, hc1, hc5]⟩
  clear hr h hb1 hb9 hb2 hc1 hc5
  have hu := Try.underlying27
  have hu86 := Try.underlying86
  unfold cells27
  go_enter Try.func49, Try.ntmps49
  obtain ⟨w1, hw1⟩ : ∃ wz, w.alloc (.cells (cells27 t d) 27) = wz := ⟨_, rfl⟩
  obtain ⟨g, hg⟩ : ∃ rz, w.heap.size = rz := ⟨_, rfl⟩
  have B1 : Aside0 (Below w.heap.size w w1) := ⟨by rw [← hw1]; exact below_alloc (Below.refl _ _) _⟩
  have K1 : Aside0 (Box27 w1 g t d) := ⟨by rw [← hw1, ← hg]; exact blk_new w _⟩
  have GE : Aside0 (w.heap.size ≤ g) := ⟨by omega⟩
  unfold cells27 at hw1
  go_upto_region 1 with fail
  clear hw1 hg
  go_cut [33] from 6 to 33 (fun v33 w' => v33 = .bool (!(rg1 t)) ∧ Aside0 (Below w.heap.size w w' ∧ Box27 w' g t d))
  case first =>
    obtain ⟨q0, q1, q2, q3, q4, q5, q6, q7, q8, q9, q10⟩ := K1.out.cells
    go_wp2_with (first
      | (go_at_call 53; with_reducible refine (dioramaref09_in.calls t.f0 (-1099511627776) 1099511627776 c1 _ I1.out).mono ?_; rintro e w2 ⟨rfl, hb0⟩; have B1 := Aside0.mk (below_step B1.out hb0.below); have K1 := Aside0.mk (K1.out.below hb0.below); clear hb0; obtain ⟨q0, q1, q2, q3, q4, q5, q6, q7, q8, q9, q10⟩ := K1.out.cells)
      | (go_at_call 53; with_reducible refine (dioramaref09_in.calls t.f5 0 65536 c5 _ I5.out).mono ?_; rintro e w2 ⟨rfl, hb0⟩; have B1 := Aside0.mk (below_step B1.out hb0.below); have K1 := Aside0.mk (K1.out.below hb0.below); clear hb0; obtain ⟨q0, q1, q2, q3, q4, q5, q6, q7, q8, q9, q10⟩ := K1.out.cells)
      | (go_at_call 96; with_reducible refine (dioramaref09_runs.calls k d.A1 d.c1 t.f1 0 2199023255552 _ _ (HR.out.below B1.out).r1 HR.out.c1 R1.out).mono ?_; rintro e w2 ⟨rfl, hb0⟩; have B1 := Aside0.mk (below_step B1.out hb0.below); have K1 := Aside0.mk (K1.out.below hb0.below); clear hb0; obtain ⟨q0, q1, q2, q3, q4, q5, q6, q7, q8, q9, q10⟩ := K1.out.cells)
      | (go_at_call 96; with_reducible refine (dioramaref09_runs.calls k d.A9 d.c9 t.f9 0 1099511627776 _ _ (HR.out.below B1.out).r9 HR.out.c9 R9.out).mono ?_; rintro e w2 ⟨rfl, hb0⟩; have B1 := Aside0.mk (below_step B1.out hb0.below); have K1 := Aside0.mk (K1.out.below hb0.below); clear hb0; obtain ⟨q0, q1, q2, q3, q4, q5, q6, q7, q8, q9, q10⟩ := K1.out.cells)
      | (go_at_call 96; with_reducible refine (dioramaref09_runs.calls k d.A2 d.c2 t.f2 (-2199023255552) 2199023255552 _ _ (HR.out.below B1.out).r2 HR.out.c2 R2.out).mono ?_; rintro e w2 ⟨rfl, hb0⟩; have B1 := Aside0.mk (below_step B1.out hb0.below); have K1 := Aside0.mk (K1.out.below hb0.below); clear hb0; obtain ⟨q0, q1, q2, q3, q4, q5, q6, q7, q8, q9, q10⟩ := K1.out.cells))
    all_goals (go_meet; case rel => exact ⟨by rw [EG.out]; first | (simp [*]; done) | (simp_all; done), ⟨B1.out, K1.out⟩⟩)
  case rest =>
  obtain ⟨rfl, h1⟩ := hcut
  have B2 := Aside0.mk h1.out.1
  have K2 := Aside0.mk h1.out.2
  clear h1 B1 K1 R1 R9 R2 I1 I5 EG
  generalize wc = w2 at B2 K2 ⊢
  cases hb1 : rg1 t with
  | false =>
    have E0 := Aside0.mk hb1
    clear hb1
    go_wp2_with fail
    go_ret
    exact ⟨by rw [E0.out]; rfl, B2.out⟩
  | true =>
  have E0 := Aside0.mk hb1
  clear hb1
  obtain ⟨q0, q1, q2, q3, q4, q5, q6, q7, q8, q9, q10⟩ := K2.out.cells
  go_wp2_with fail
  clear q0 q1 q2 q3 q4 q5 q6 q7 q8 q9 q10
  go_loopg [3] (t.f6.length + 1) (fun kq v3 w' => ∃ (i : Nat), v3 = .int .i64 (i : Int) ∧ Aside0 (kq = t.f6.length - i + 1) ∧ Aside0 (i ≤ t.f6.length ∧ (t.f6.take i).any (badN 65536) = false) ∧ Aside0 (Below w.heap.size w w' ∧ Box27 w' g t d))
  case atStart => exact ⟨0, rfl, ⟨rfl⟩, ⟨⟨Nat.zero_le _, rfl⟩⟩, ⟨⟨B2.out, K2.out⟩⟩⟩
  case round =>
    clear B2 K2
    obtain ⟨i, rfl, HQ, HI, HW⟩ := hrel
    obtain ⟨q0, q1, q2, q3, q4, q5, q6, q7, q8, q9, q10⟩ := HW.out.2.cells
    by_cases hj : i < t.f6.length
    · have hj1 : decide ((i : Int) < (t.f6.length : Int)) = true := decide_eq_true (by omega)
      have hj2 : decide (i < t.f6.length) = true := decide_eq_true hj
      have hj3 : (i < t.f6.length) = True := eq_true hj
      have HHJ := Aside0.mk hj
      have e8 : wrap64 ((i : Int) + 1) = ((i + 1 : Nat) : Int) := by have := HR.out.r6.2.1; unfold wrap64; omega
      obtain ⟨ads, es, xs⟩ := Kd.at_int (HR.out.below HW.out.1).r6 (i : Int) (by omega) (by omega)
      rw [es] at q6
      rw [Int.toNat_natCast] at xs
      have HTK : Aside0 ((t.f6.take (i + 1)).any (badN 65536) = badN 65536 (rd t.f6 i)) := ⟨by rw [List.take_add_one, List.any_append, HI.out.2]; simp [rd, List.getD_eq_getElem?_getD, List.getElem?_eq_getElem hj]⟩
      have HAN : Aside0 (badN 65536 (rd t.f6 i) = true → t.f6.any (badN 65536) = true) := ⟨fun h => List.any_eq_true.mpr ⟨t.f6[i], List.getElem_mem _, by rw [show t.f6[i] = rd t.f6 i from by simp [rd, List.getD_eq_getElem?_getD, List.getElem?_eq_getElem hj]]; exact h⟩⟩
      generalize rd t.f6 i = x at xs HTK HAN
      clear hj es
      go_wp2_with fail
      refine (dioramaref09_in.calls x 0 65536 _ _ (in_f _ _ _)).mono ?_
      rintro e w3 ⟨rfl, hb0⟩
      have HW3 := Aside0.mk (And.intro (below_step HW.out.1 hb0.below) (HW.out.2.below hb0.below))
      clear hb0
      clear q0 q1 q2 q3 q4 q5 q6 q7 q8 q9 q10
      cases hi1 : (decide ((0 : Int) ≤ x) && decide (x ≤ 65536)) with
      | false =>
        have HSZ : Aside0 (t.f6.any (badN 65536) = true) := ⟨HAN.out (by rw [Bool.and_eq_false_iff] at hi1; unfold badN; rcases hi1 with h | h <;> rw [h] <;> simp)⟩
        clear hi1
        go_wp2_with fail
        go_ret
        exact ⟨by rw [E0.out, HSZ.out]; first | done | rfl | (simp; done), HW3.out.1⟩
      | true =>
        have HSZ : Aside0 (badN 65536 x = false) := ⟨by rw [Bool.and_eq_true] at hi1; unfold badN; rw [hi1.1, hi1.2]; rfl⟩
        clear hi1
        go_wp2_with fail
        go_roundg (t.f6.length - (i + 1) + 1)
        case measure => have := HQ.out; have := HHJ.out; omega
        case rel => exact ⟨i + 1, by first | rfl | rw [e8], ⟨rfl⟩, ⟨⟨HHJ.out, by rw [HTK.out, HSZ.out]⟩⟩, HW3⟩
    · have hj1 : decide ((i : Int) < (t.f6.length : Int)) = false := decide_eq_false (by omega)
      have hj2 : decide (i < t.f6.length) = false := decide_eq_false hj
      have hj3 : (i < t.f6.length) = False := eq_false hj
      have E6 : Aside0 (t.f6.any (badN 65536) = false) := ⟨by have h9 := HI.out.2; rwa [List.take_of_length_le (by omega)] at h9⟩
      have B6b := Aside0.mk HW.out.1
      have K6b := Aside0.mk HW.out.2
      clear hj HI HQ HW
      go_wp2_with fail
      clear hj1 hj2 hj3
      clear q0 q1 q2 q3 q4 q5 q6 q7 q8 q9 q10
      generalize wr = w6 at K6b B6b ⊢
      obtain ⟨q0, q1, q2, q3, q4, q5, q6, q7, q8, q9, q10⟩ := K6b.out.cells
      go_wp2_with fail
      clear q0 q1 q2 q3 q4 q5 q6 q7 q8 q9 q10
      go_loopg [4] (t.f8.length + 1) (fun kq v4 w' => ∃ (i : Nat), v4 = .int .i64 (i : Int) ∧ Aside0 (kq = t.f8.length - i + 1) ∧ Aside0 (i ≤ t.f8.length ∧ (t.f8.take i).any (badN 1048576) = false) ∧ Aside0 (Below w.heap.size w w' ∧ Box27 w' g t d))
      case atStart => exact ⟨0, rfl, ⟨rfl⟩, ⟨⟨Nat.zero_le _, rfl⟩⟩, ⟨⟨B6b.out, K6b.out⟩⟩⟩
      case round =>
        clear B6b K6b
        obtain ⟨i, rfl, HQ, HI, HW⟩ := hrel
        obtain ⟨q0, q1, q2, q3, q4, q5, q6, q7, q8, q9, q10⟩ := HW.out.2.cells
        by_cases hj : i < t.f8.length
        · have hj1 : decide ((i : Int) < (t.f8.length : Int)) = true := decide_eq_true (by omega)
          have hj2 : decide (i < t.f8.length) = true := decide_eq_true hj
          have hj3 : (i < t.f8.length) = True := eq_true hj
          have HHJ := Aside0.mk hj
          have e8 : wrap64 ((i : Int) + 1) = ((i + 1 : Nat) : Int) := by have := HR.out.r8.2.1; unfold wrap64; omega
          obtain ⟨ads, es, xs⟩ := Kd.at_int (HR.out.below HW.out.1).r8 (i : Int) (by omega) (by omega)
          rw [es] at q8
          rw [Int.toNat_natCast] at xs
          have HTK : Aside0 ((t.f8.take (i + 1)).any (badN 1048576) = badN 1048576 (rd t.f8 i)) := ⟨by rw [List.take_add_one, List.any_append, HI.out.2]; simp [rd, List.getD_eq_getElem?_getD, List.getElem?_eq_getElem hj]⟩
          have HAN : Aside0 (badN 1048576 (rd t.f8 i) = true → t.f8.any (badN 1048576) = true) := ⟨fun h => List.any_eq_true.mpr ⟨t.f8[i], List.getElem_mem _, by rw [show t.f8[i] = rd t.f8 i from by simp [rd, List.getD_eq_getElem?_getD, List.getElem?_eq_getElem hj]]; exact h⟩⟩
          generalize rd t.f8 i = x at xs HTK HAN
          clear hj es
          go_wp2_with fail
          refine (dioramaref09_in.calls x 0 1048576 _ _ (in_f _ _ _)).mono ?_
          rintro e w3 ⟨rfl, hb0⟩
          have HW3 := Aside0.mk (And.intro (below_step HW.out.1 hb0.below) (HW.out.2.below hb0.below))
          clear hb0
          clear q0 q1 q2 q3 q4 q5 q6 q7 q8 q9 q10
          cases hi1 : (decide ((0 : Int) ≤ x) && decide (x ≤ 1048576)) with
          | false =>
            have HSZ : Aside0 (t.f8.any (badN 1048576) = true) := ⟨HAN.out (by rw [Bool.and_eq_false_iff] at hi1; unfold badN; rcases hi1 with h | h <;> rw [h] <;> simp)⟩
            clear hi1
            go_wp2_with fail
            go_ret
            exact ⟨by rw [E0.out, HSZ.out, E6.out]; first | done | rfl | (simp; done), HW3.out.1⟩
          | true =>
            have HSZ : Aside0 (badN 1048576 x = false) := ⟨by rw [Bool.and_eq_true] at hi1; unfold badN; rw [hi1.1, hi1.2]; rfl⟩
            clear hi1
            go_wp2_with fail
            go_roundg (t.f8.length - (i + 1) + 1)
            case measure => have := HQ.out; have := HHJ.out; omega
            case rel => exact ⟨i + 1, by first | rfl | rw [e8], ⟨rfl⟩, ⟨⟨HHJ.out, by rw [HTK.out, HSZ.out]⟩⟩, HW3⟩
        · have hj1 : decide ((i : Int) < (t.f8.length : Int)) = false := decide_eq_false (by omega)
          have hj2 : decide (i < t.f8.length) = false := decide_eq_false hj
          have hj3 : (i < t.f8.length) = False := eq_false hj
          have E8 : Aside0 (t.f8.any (badN 1048576) = false) := ⟨by have h9 := HI.out.2; rwa [List.take_of_length_le (by omega)] at h9⟩
          have B8b := Aside0.mk HW.out.1
          have K8b := Aside0.mk HW.out.2
          clear hj HI HQ HW
          go_wp2_with fail
          clear hj1 hj2 hj3
          clear q0 q1 q2 q3 q4 q5 q6 q7 q8 q9 q10
          generalize wr = w8 at K8b B8b ⊢
          obtain ⟨q0, q1, q2, q3, q4, q5, q6, q7, q8, q9, q10⟩ := K8b.out.cells
          go_wp2_with fail
          clear q0 q1 q2 q3 q4 q5 q6 q7 q8 q9 q10
          go_loopg [5] (t.f7.length + 1) (fun kq v5 w' => ∃ (i : Nat), v5 = .int .i64 (i : Int) ∧ Aside0 (kq = t.f7.length - i + 1) ∧ Aside0 (i ≤ t.f7.length ∧ (t.f7.take i).any (badC) = false) ∧ Aside0 (Below w.heap.size w w' ∧ Box27 w' g t d))
          case atStart => exact ⟨0, rfl, ⟨rfl⟩, ⟨⟨Nat.zero_le _, rfl⟩⟩, ⟨⟨B8b.out, K8b.out⟩⟩⟩
          case round =>
            clear B8b K8b
            obtain ⟨i, rfl, HQ, HI, HW⟩ := hrel
            obtain ⟨q0, q1, q2, q3, q4, q5, q6, q7, q8, q9, q10⟩ := HW.out.2.cells
            by_cases hj : i < t.f7.length
            · have hj1 : decide ((i : Int) < (t.f7.length : Int)) = true := decide_eq_true (by omega)
              have hj2 : decide (i < t.f7.length) = true := decide_eq_true hj
              have hj3 : (i < t.f7.length) = True := eq_true hj
              have HHJ := Aside0.mk hj
              have e8 : wrap64 ((i : Int) + 1) = ((i + 1 : Nat) : Int) := by have := HR.out.r7.2.1; unfold wrap64; omega
              obtain ⟨ads, es, xs0, xs⟩ := at_T86 (HR.out.below HW.out.1).r7 (i : Int) (by omega) (by omega)
              rw [es] at q7
              rw [Int.toNat_natCast] at xs0 xs
              have HTK : Aside0 ((t.f7.take (i + 1)).any badC = badC (rd_T86 t.f7 i)) := ⟨by rw [List.take_add_one, List.any_append, HI.out.2]; simp [rd_T86, List.getD_eq_getElem?_getD, List.getElem?_eq_getElem hj]⟩
              have HAN : Aside0 (badC (rd_T86 t.f7 i) = true → t.f7.any badC = true) := ⟨fun h => List.any_eq_true.mpr ⟨t.f7[i], List.getElem_mem _, by rw [show t.f7[i] = rd_T86 t.f7 i from by simp [rd_T86, List.getD_eq_getElem?_getD, List.getElem?_eq_getElem hj]]; exact h⟩⟩
              generalize rd_T86 t.f7 i = x at xs xs0 HTK HAN
              clear hj es
              go_wp2_with fail
              refine (dioramaref09_in.calls x.f1 0 400 _ _ (in_f _ _ _)).mono ?_
              rintro e w3 ⟨rfl, hb0⟩
              have HW3 := Aside0.mk (And.intro (below_step HW.out.1 hb0.below) (HW.out.2.below hb0.below))
              clear hb0
              clear q0 q1 q2 q3 q4 q5 q6 q7 q8 q9 q10
              cases hi1 : (decide ((0 : Int) ≤ x.f1) && decide (x.f1 ≤ 400)) with
              | false =>
                have HSZ : Aside0 (t.f7.any (badC) = true) := ⟨HAN.out (by rw [Bool.and_eq_false_iff] at hi1; unfold badC; rcases hi1 with h | h <;> rw [h] <;> simp)⟩
                clear hi1
                go_wp2_with fail
                go_ret
                exact ⟨by rw [E0.out, HSZ.out, E6.out, E8.out]; first | done | rfl | (simp; done), HW3.out.1⟩
              | true =>
                have HSZ : Aside0 (badC x = false) := ⟨by rw [Bool.and_eq_true] at hi1; unfold badC; rw [hi1.1, hi1.2]; rfl⟩
                clear hi1
                go_wp2_with fail
                go_roundg (t.f7.length - (i + 1) + 1)
                case measure => have := HQ.out; have := HHJ.out; omega
                case rel => exact ⟨i + 1, by first | rfl | rw [e8], ⟨rfl⟩, ⟨⟨HHJ.out, by rw [HTK.out, HSZ.out]⟩⟩, HW3⟩
            · have hj1 : decide ((i : Int) < (t.f7.length : Int)) = false := decide_eq_false (by omega)
              have hj2 : decide (i < t.f7.length) = false := decide_eq_false hj
              have hj3 : (i < t.f7.length) = False := eq_false hj
              have E7 : Aside0 (t.f7.any (badC) = false) := ⟨by have h9 := HI.out.2; rwa [List.take_of_length_le (by omega)] at h9⟩
              clear hj
              go_wp2_with fail
              go_ret
              exact ⟨by rw [E0.out, E7.out, E6.out, E8.out]; rfl, HW.out.1⟩
end Go.Proofs.Ytmbhafgnmdfjhaa.QTab
namespace Go.Proofs.Ytmbhafgnmdfjhaa.QTab
open Go.RowKit Go.Proofs.YtmbhafgnmdfjhaaW.PrintWords Go.Proofs.YtmbhafgnmdfjhaaW.PrintLast Go.Proofs.YtmbhafgnmdfjhaaW.PrintMore Go.Proofs.YtmbhafgnmdfjhaaV
set_option linter.unusedVariables false
set_option linter.unusedSimpArgs false
def kSt (l : List S86) : Nat → Int
  | 0 => -1
  | i + 1 => if kSt l i + 1 < (l.length : Int) ∧ (rd_T86 l (kSt l i + 1)).f0 = (i : Int) + 1 then kSt l i + 1 else kSt l i
theorem kSt_rng (l : List S86) : ∀ i, -1 ≤ kSt l i ∧ kSt l i < (l.length : Int) := by
  intro i
  induction i with
  | zero => constructor <;> simp only [kSt] <;> omega
  | succ i ih =>
    rw [kSt]
    split
    · rename_i h; omega
    · exact ih
theorem kSt_pos {l : List S86} (h0 : 0 < l.length) (h1 : (rd_T86 l 0).f0 = 1) : ∀ i, 0 ≤ kSt l (i + 1) := by
  intro i
  induction i with
  | zero =>
    rw [kSt]
    have e : kSt l 0 + 1 = 0 := rfl
    rw [e, if_pos ⟨by omega, by rw [h1]; rfl⟩]
    exact Int.le_refl _
  | succ i ih =>
    rw [kSt]
    split
    · omega
    · exact ih
theorem ch_first {np : Int} {l : List S86} (h : chB np 0 0 l = true) (h0 : 0 < l.length) : (rd_T86 l 0).f0 = 1 := by
  cases l with
  | nil => simp at h0
  | cons c r =>
    rw [chB, Bool.and_eq_true, Bool.and_eq_true, if_pos rfl] at h
    exact beq_iff_eq.mp h.1.1
def chunkL (l : List S86) (n : Nat) : List Int := (List.range n).map fun j => (rd_T86 l (kSt l (j + 1))).f1
theorem chunkL_next (l : List S86) (n : Nat) : chunkL l (n + 1) = chunkL l n ++ [(rd_T86 l (kSt l (n + 1))).f1] := by
  simp [chunkL, List.range_succ]
def chOk (t : S27) : Bool := decide (0 < t.f7.length) == decide (0 < t.f8.length) && chB t.f8.length 0 0 t.f7
def chunkR (t : S27) : List Int := if chOk t = true then chunkL t.f7 t.f8.length else []
theorem chunkR_no {t : S27} (h : chOk t = false) : chunkR t = [] := by rw [chunkR, h]; rfl
theorem chunkR_ok {t : S27} (h : chOk t = true) : chunkR t = chunkL t.f7 t.f8.length := by rw [chunkR, h]; rfl
set_option maxRecDepth 100000 in
set_option maxHeartbeats 2000000 in
theorem chunked_calls {w : World} (t : S27) (d : D27) (hr : R27 w t d) (hn : t.f8.length ≤ 1000000) :
    Calls Try.prog 83 #[.agg (cells27 t d)] w fun e w' => ∃ v, e = .returned (.tuple #[v, .bool (chOk t)]) ∧ Kd.R (Kd.int .i64) 3 w' w.heap.size (fun _ => True) v (chunkR t) ∧ Below w.heap.size w w' := by
  have HR := Aside0.mk hr
  have HN := Aside0.mk hn
  clear hr hn
  have hu := Try.underlying27
  have hu86 := Try.underlying86
  unfold cells27
  go_enter Try.func83, Try.ntmps83
  obtain ⟨w1, hw1⟩ : ∃ wz, w.alloc (.cells (cells27 t d) 27) = wz := ⟨_, rfl⟩
  obtain ⟨g, hg⟩ : ∃ rz, w.heap.size = rz := ⟨_, rfl⟩
  have B1 : Aside0 (Below w.heap.size w w1) := ⟨by rw [← hw1]; exact below_alloc (Below.refl _ _) _⟩
  have K1 : Aside0 (Box27 w1 g t d) := ⟨by rw [← hw1, ← hg]; exact blk_new w _⟩
  have GE : Aside0 (w.heap.size ≤ g) := ⟨by omega⟩
  unfold cells27 at hw1
  obtain ⟨q0, q1, q2, q3, q4, q5, q6, q7, q8, q9, q10⟩ := K1.out.cells
  have hl7 : t.f7.length = 0 ↔ t.f7 = [] := List.length_eq_zero_iff
  have hl8 : t.f8.length = 0 ↔ t.f8 = [] := List.length_eq_zero_iff
  by_cases hE : (t.f7.length = 0) = (t.f8.length = 0)
  · have HE : Aside0 ((decide (0 < t.f7.length) == decide (0 < t.f8.length)) = true ∧ ((t.f7.length = 0) = (t.f8.length = 0))) := ⟨⟨by
      by_cases h : t.f7.length = 0
      · have h2 : t.f8.length = 0 := by rw [hE] at h; exact h
        rw [h, h2]; rfl
      · have h2 : ¬ t.f8.length = 0 := by rw [hE] at h; exact h
        rw [decide_eq_true (show 0 < t.f7.length by omega), decide_eq_true (show 0 < t.f8.length by omega)]; rfl, hE⟩⟩
    have GO : (!((t.f7.length : Int) == 0) == ((t.f8.length : Int) == 0)) = false := by
      by_cases h : t.f7.length = 0
      · have h2 : t.f8.length = 0 := by rw [hE] at h; exact h
        rw [h, h2]; rfl
      · have h2 : ¬ t.f8.length = 0 := by rw [hE] at h; exact h
        rw [beq_eq_false_iff_ne.mpr (show (t.f7.length : Int) ≠ 0 by omega), beq_eq_false_iff_ne.mpr (show (t.f8.length : Int) ≠ 0 by omega)]; rfl
    clear hE hl7 hl8
    go_wp2_with fail
    clear hw1 hg GO q0 q1 q2 q3 q4 q5 q6 q7 q8 q9 q10
    have SA7 := HR.out.r7
    generalize wN : w1 = w4 at B1 K1 ⊢
    clear wN SA7
    go_loopg [5] (t.f7.length + 1) (fun kq v5 w' => ∃ (i : Nat), v5 = .int .i64 (i : Int) ∧ Aside0 (kq = t.f7.length - i + 1) ∧ Aside0 (i ≤ t.f7.length ∧ chB t.f8.length 0 0 t.f7 = chB t.f8.length i (prevC t.f7 i) (t.f7.drop i)) ∧ Aside0 (Below w.heap.size w w' ∧ Box27 w' g t d))
    case atStart => exact ⟨0, rfl, ⟨rfl⟩, ⟨⟨Nat.zero_le _, rfl⟩⟩, ⟨⟨B1.out, K1.out⟩⟩⟩
    case round =>
      obtain ⟨i, rfl, HQ, HI, HW⟩ := hrel
      have q7 := HW.out.2.cells.2.2.2.2.2.2.2.1
      by_cases hj : i < t.f7.length
      · have hj1 : decide ((i : Int) < (t.f7.length : Int)) = true := decide_eq_true (by omega)
        have hj2 : decide (i < t.f7.length) = true := decide_eq_true hj
        have hj3 : (i < t.f7.length) = True := eq_true hj
        have HHJ := Aside0.mk hj
        have e8 : wrap64 ((i : Int) + 1) = ((i + 1 : Nat) : Int) := by have := HR.out.r7.2.1; unfold wrap64; omega
        obtain ⟨ads, es, x5, y5⟩ := at_T86 (HR.out.below HW.out.1).r7 (i : Int) (by omega) (by omega)
        rw [Int.toNat_natCast] at x5 y5
        rw [es] at q7
        obtain ⟨cc, hcc⟩ : ∃ z, rd_T86 t.f7 i = z := ⟨_, rfl⟩
        rw [hcc] at x5 y5
        have HCH : Aside0 (chB t.f8.length 0 0 t.f7 = ((if i = 0 then cc.f0 == 1 else decide (prevC t.f7 i < cc.f0)) && decide (cc.f0 ≤ (t.f8.length : Int)) && chB t.f8.length (i + 1) cc.f0 (t.f7.drop (i + 1)))) := ⟨by rw [HI.out.2, List.drop_eq_getElem_cons hj, chB, ← hcc]; simp [rd_T86, List.getD_eq_getElem?_getD, List.getElem?_eq_getElem hj]⟩
        have HPV : Aside0 (prevC t.f7 (i + 1) = cc.f0) := ⟨by rw [← hcc]; simp [prevC]⟩
        obtain ⟨w5, hw5⟩ : ∃ wz, wr.alloc (.cells #[.int .i64 cc.f0, .int .i64 cc.f1] 86) = wz := ⟨_, rfl⟩
        have hq5 : Below wr.heap.size wr w5 := by rw [← hw5]; exact below_alloc (Below.refl _ _) _
        have B5 : Aside0 (Below w.heap.size w w5 ∧ True) := ⟨⟨below_step HW.out.1 hq5, trivial⟩⟩
        have K5 := Aside0.mk (HW.out.2.below hq5)
        have L5 : w5.heap[wr.heap.size]? = some (.cells #[.int .i64 cc.f0, .int .i64 cc.f1] 86 (0, 0)) := by rw [← hw5]; exact blk_new wr _
        obtain ⟨l0, l1, l2, l3⟩ := bcells2 L5
        have r7 := K5.out.cells.2.2.2.2.2.2.2.1
        have r8 := K5.out.cells.2.2.2.2.2.2.2.2.1
        rw [es] at r7
        have ES := Aside0.mk es
        clear hcc hq5 L5 es
        by_cases hi0 : i = 0
        · have hz1 : ((i : Int) == 0) = true := beq_iff_eq.mpr (by omega)
          have hz2 : decide (0 < i) = false := decide_eq_false (by omega)
          have HI0 := Aside0.mk hi0
          clear hj hi0
          go_wp2_with fail
          by_cases hcA : cc.f0 = 1
          · have hok1 : (if i = 0 then cc.f0 == 1 else decide (prevC t.f7 i < cc.f0)) = true := by rw [if_pos HI0.out]; exact beq_iff_eq.mpr hcA
            have hcB : (cc.f0 != 1) = false := bne_eq_false_iff_eq.mpr hcA
            clear hcA
            by_cases hcD : cc.f0 ≤ (t.f8.length : Int)
            · have hok2 : decide (cc.f0 ≤ (t.f8.length : Int)) = true := decide_eq_true hcD
              have hcE : decide ((t.f8.length : Int) < cc.f0) = false := decide_eq_false (by omega)
              clear hcD
              have HCF : Aside0 (chB t.f8.length 0 0 t.f7 = chB t.f8.length (i + 1) cc.f0 (t.f7.drop (i + 1))) := ⟨by rw [HCH.out, hok1, hok2]; rfl⟩
              clear hok1 hok2
              repeat (go_quiet (fail); go_wp2_with fail)
              go_roundg (t.f7.length - (i + 1) + 1)
              case measure => have := HQ.out; have := HHJ.out; omega
              case rel => exact ⟨i + 1, by first | rfl | rw [e8], ⟨rfl⟩, ⟨⟨HHJ.out, by rw [HCF.out, HPV.out]⟩⟩, ⟨⟨pw_below_drewN B5.out.1 _, K5.out⟩⟩⟩
            · have hok2 : decide (cc.f0 ≤ (t.f8.length : Int)) = false := decide_eq_false hcD
              have hcE : decide ((t.f8.length : Int) < cc.f0) = true := decide_eq_true (by omega)
              clear hcD
              have HCF : Aside0 (chOk t = false) := ⟨by rw [chOk, HE.out.1, HCH.out, hok1, hok2]; simp⟩
              clear hok1 hok2
              repeat (go_quiet (fail); go_wp2_with fail)
              go_ret2
              exact ⟨_, by rw [HCF.out]; rfl, by rw [chunkR_no HCF.out]; exact Kd.R_nil _ _ _ _ _, pw_below_drewN B5.out.1 _⟩
          · have hok1 : (if i = 0 then cc.f0 == 1 else decide (prevC t.f7 i < cc.f0)) = false := by rw [if_pos HI0.out]; exact beq_eq_false_iff_ne.mpr hcA
            have hcB : (cc.f0 != 1) = true := bne_iff_ne.mpr hcA
            clear hcA
            have HCF : Aside0 (chOk t = false) := ⟨by rw [chOk, HE.out.1, HCH.out, hok1]; simp⟩
            clear hok1
            repeat (go_quiet (fail); go_wp2_with fail)
            go_ret2
            exact ⟨_, by rw [HCF.out]; rfl, by rw [chunkR_no HCF.out]; exact Kd.R_nil _ _ _ _ _, pw_below_drewN B5.out.1 _⟩
        · have hz1 : ((i : Int) == 0) = false := beq_eq_false_iff_ne.mpr (by omega)
          have hz2 : decide (0 < i) = true := decide_eq_true (by omega)
          have hz3 : decide ((0 : Int) < (i : Int)) = true := decide_eq_true (by omega)
          obtain ⟨m, hm⟩ : ∃ m : Nat, (i : Int) - 1 = (m : Int) := ⟨i - 1, by omega⟩
          have hm1 : wrap64 ((i : Int) - 1) = (m : Int) := by have := HR.out.r7.2.1; unfold wrap64; omega
          have hm2 : IntKind.i64.wrap ((i : Int) - 1) = (m : Int) := by rw [IntKind.wrap_i64]; have := HR.out.r7.2.1; omega
          have hm3 : (m < t.f7.length) = True := eq_true (by omega)
          obtain ⟨ads', es', x6, y6⟩ := at_T86 (HR.out.below B5.out.1).r7 (m : Int) (by omega) (by omega)
          rw [ES.out] at es'
          cases es'
          rw [Int.toNat_natCast] at x6 y6
          have hpv : prevC t.f7 i = (rd_T86 t.f7 m).f0 := by rw [prevC, if_neg hi0]; congr 2; omega
          obtain ⟨pv, hpv2⟩ : ∃ z, (rd_T86 t.f7 m).f0 = z := ⟨_, rfl⟩
          rw [hpv2] at x6 hpv
          have HI0 := Aside0.mk hi0
          have HPP := Aside0.mk hpv
          clear hj hi0 hm hpv hpv2 y6
          go_wp2_with fail
          by_cases hcA : pv < cc.f0
          · have hok1 : (if i = 0 then cc.f0 == 1 else decide (prevC t.f7 i < cc.f0)) = true := by rw [if_neg HI0.out, HPP.out]; exact decide_eq_true hcA
            have hcB : decide (cc.f0 ≤ pv) = false := decide_eq_false (by omega)
            clear hcA
            by_cases hcD : cc.f0 ≤ (t.f8.length : Int)
            · have hok2 : decide (cc.f0 ≤ (t.f8.length : Int)) = true := decide_eq_true hcD
              have hcE : decide ((t.f8.length : Int) < cc.f0) = false := decide_eq_false (by omega)
              clear hcD
              have HCF : Aside0 (chB t.f8.length 0 0 t.f7 = chB t.f8.length (i + 1) cc.f0 (t.f7.drop (i + 1))) := ⟨by rw [HCH.out, hok1, hok2]; rfl⟩
              clear hok1 hok2
              repeat (go_quiet (fail); go_wp2_with fail)
              go_roundg (t.f7.length - (i + 1) + 1)
              case measure => have := HQ.out; have := HHJ.out; omega
              case rel => exact ⟨i + 1, by first | rfl | rw [e8], ⟨rfl⟩, ⟨⟨HHJ.out, by rw [HCF.out, HPV.out]⟩⟩, ⟨⟨pw_below_drewN B5.out.1 _, K5.out⟩⟩⟩
            · have hok2 : decide (cc.f0 ≤ (t.f8.length : Int)) = false := decide_eq_false hcD
              have hcE : decide ((t.f8.length : Int) < cc.f0) = true := decide_eq_true (by omega)
              clear hcD
              have HCF : Aside0 (chOk t = false) := ⟨by rw [chOk, HE.out.1, HCH.out, hok1, hok2]; simp⟩
              clear hok1 hok2
              repeat (go_quiet (fail); go_wp2_with fail)
              go_ret2
              exact ⟨_, by rw [HCF.out]; rfl, by rw [chunkR_no HCF.out]; exact Kd.R_nil _ _ _ _ _, pw_below_drewN B5.out.1 _⟩
          · have hok1 : (if i = 0 then cc.f0 == 1 else decide (prevC t.f7 i < cc.f0)) = false := by rw [if_neg HI0.out, HPP.out]; exact decide_eq_false hcA
            have hcB : decide (cc.f0 ≤ pv) = true := decide_eq_true (by omega)
            clear hcA
            have HCF : Aside0 (chOk t = false) := ⟨by rw [chOk, HE.out.1, HCH.out, hok1]; simp⟩
            clear hok1
            repeat (go_quiet (fail); go_wp2_with fail)
            go_ret2
            exact ⟨_, by rw [HCF.out]; rfl, by rw [chunkR_no HCF.out]; exact Kd.R_nil _ _ _ _ _, pw_below_drewN B5.out.1 _⟩
      · have hj1 : decide ((i : Int) < (t.f7.length : Int)) = false := decide_eq_false (by omega)
        have hj2 : decide (i < t.f7.length) = false := decide_eq_false hj
        have hj3 : (i < t.f7.length) = False := eq_false hj
        have HCF : Aside0 (chB t.f8.length 0 0 t.f7 = true) := ⟨by rw [HI.out.2, List.drop_of_length_le (by omega)]; rfl⟩
        have HOK : Aside0 (chOk t = true) := ⟨by rw [chOk, HE.out.1, HCF.out]; rfl⟩
        have HKP : Aside0 (0 < t.f8.length → ∀ c, 0 ≤ kSt t.f7 (c + 1)) := ⟨fun h8 => by
          have h7 : 0 < t.f7.length := by
            by_cases h : t.f7.length = 0
            · have h9 := HE.out.2
              rw [eq_true h] at h9
              have := of_eq_true h9.symm
              omega
            · omega
          exact kSt_pos h7 (ch_first HCF.out h7)⟩
        have B6 := Aside0.mk HW.out.1
        have K6 := Aside0.mk HW.out.2
        clear hj HI HQ HW
        have q8 := K6.out.cells.2.2.2.2.2.2.2.2.1
        go_wp2_with fail
        clear q7 q8 hj1 hj2 hj3
        generalize wr = w6 at B6 K6 ⊢
        go_loopg [4, 7, 8] (t.f8.length + 1) (fun kq v4 v7 v8 w' => ∃ (c : Nat), v7 = .int .i64 (kSt t.f7 c) ∧ v8 = .int .i64 (c : Int) ∧ Aside0 (kq = t.f8.length - c + 1) ∧ Aside0 (c ≤ t.f8.length) ∧ Aside0 (Kd.R (Kd.int .i64) 3 w' w.heap.size (fun _ => True) v4 (chunkL t.f7 c)) ∧ Aside0 (Below w.heap.size w w' ∧ Box27 w' g t d))
        case atStart => exact ⟨0, rfl, rfl, ⟨rfl⟩, ⟨Nat.zero_le _⟩, ⟨Kd.R_nil _ _ _ _ _⟩, ⟨⟨B6.out, K6.out⟩⟩⟩
        case round =>
          clear B6 K6
          obtain ⟨c, rfl, rfl, HQ, HI, HO, HW⟩ := hrel
          have q7 := HW.out.2.cells.2.2.2.2.2.2.2.1
          have q8 := HW.out.2.cells.2.2.2.2.2.2.2.2.1
          by_cases hj : c < t.f8.length
          · have hj1 : decide ((c : Int) < (t.f8.length : Int)) = true := decide_eq_true (by omega)
            have hj2 : decide (c < t.f8.length) = true := decide_eq_true hj
            have hj3 : (c < t.f8.length) = True := eq_true hj
            have HHJ := Aside0.mk hj
            have e8 : wrap64 ((c : Int) + 1) = ((c + 1 : Nat) : Int) := by have := HR.out.r8.2.1; unfold wrap64; omega
            have hkp := HKP.out (by omega) c
            obtain ⟨hk1, hk2⟩ := kSt_rng t.f7 (c + 1)
            obtain ⟨hk3, hk4⟩ := kSt_rng t.f7 c
            obtain ⟨kk, hkk⟩ : ∃ kk : Nat, kSt t.f7 (c + 1) = (kk : Int) := ⟨(kSt t.f7 (c + 1)).toNat, by omega⟩
            have hkl : kk < t.f7.length := by omega
            have hkl1 : (kk < t.f7.length) = True := eq_true hkl
            obtain ⟨ads, es, x0, x1⟩ := at_T86 (HR.out.below HW.out.1).r7 (kk : Int) (by omega) (by omega)
            rw [Int.toNat_natCast] at x0 x1
            rw [es] at q7
            obtain ⟨xk, hxk⟩ : ∃ z, (rd_T86 t.f7 kk).f1 = z := ⟨_, rfl⟩
            rw [hxk] at x1
            have HXK := Aside0.mk hxk
            have hlen : (chunkL t.f7 c).length = c := by simp [chunkL]
            obtain ⟨pl, hpl⟩ : ∃ z, chunkL t.f7 c = z := ⟨_, rfl⟩
            obtain ⟨pl2, hpl2⟩ : ∃ z, pl ++ [xk] = z := ⟨_, rfl⟩
            have HPL2 := Aside0.mk hpl2
            rw [hpl] at hlen HO
            have HPL : Aside0 (chunkL t.f7 c = pl ∧ pl.length < 1000000) := ⟨⟨hpl, by have := HN.out; omega⟩⟩
            have HOG := Aside0.mk (Kd.R_ne HO.out HW.out.2 (by decide))
            obtain ⟨Av, cv, rfl⟩ := Kd.R_slice HO.out
            have hks : kSt t.f7 (c + 1) = if kSt t.f7 c + 1 < (t.f7.length : Int) ∧ (rd_T86 t.f7 (kSt t.f7 c + 1)).f0 = (c : Int) + 1 then kSt t.f7 c + 1 else kSt t.f7 c := rfl
            obtain ⟨k0, hk0⟩ : ∃ z, kSt t.f7 c = z := ⟨_, rfl⟩
            rw [hk0] at hks hk3 hk4 ⊢
            rw [hkk] at hks
            have f0 : wrap64 (k0 + 1) = k0 + 1 := by have := HR.out.r7.2.1; unfold wrap64; omega
            clear hkp hk1 hk2 hxk hpl hpl2 hlen hk0
            by_cases h1 : k0 + 1 < (t.f7.length : Int)
            · have h1a : decide (k0 + 1 < (t.f7.length : Int)) = true := decide_eq_true h1
              obtain ⟨kn, hkn⟩ : ∃ kn : Nat, k0 + 1 = (kn : Int) := ⟨(k0 + 1).toNat, by omega⟩
              rw [hkn] at hks f0 h1a h1
              have f1 : wrap64 (k0 + 1) = (kn : Int) := by have := HR.out.r7.2.1; unfold wrap64; omega
              have f2 : (kn < t.f7.length) = True := eq_true (by omega)
              have f3 : decide (kn < t.f7.length) = true := decide_eq_true (by omega)
              obtain ⟨ads', es', x2, x3⟩ := at_T86 (HR.out.below HW.out.1).r7 (kn : Int) (by omega) (by omega)
              rw [es] at es'
              cases es'
              rw [Int.toNat_natCast] at x2 x3
              obtain ⟨xn, hxn⟩ : ∃ z, (rd_T86 t.f7 kn).f0 = z := ⟨_, rfl⟩
              rw [hxn] at x2 hks
              clear hxn hkn x3 hk3 hk4
              by_cases h2 : xn = (c : Int) + 1
              · have h2a : (xn == (c : Int) + 1) = true := beq_iff_eq.mpr h2
                have h2b : (xn == ((c + 1 : Nat) : Int)) = true := beq_iff_eq.mpr (by omega)
                rw [if_pos ⟨h1, h2⟩] at hks
                have hkq : kn = kk := by omega
                subst hkq
                clear h1 h2 hks es hj
                have HKS : Aside0 (kSt t.f7 (c + 1) = (kn : Int)) := ⟨hkk⟩
                clear hkk
                go_wp2_with (at_builtin; refine Kd.R_append (Kd.int .i64) (w0 := w) (W := wr) w.heap.size rfl (.tmp 88) (.tmp 95) 23 3 (.int .i64 0) 8 rfl Try.underlying23 info3 rfl (by decide) (by decide) _ pl xk [.int .i64 xk] (fun _ => True) (fun _ => False) rfl rfl (show Kd.M (Kd.int .i64) _ _ _ _ _ from rfl) (fun _ h => h.elim) (fun k hk => trivial) HO.out HW.out.1 HW.out.1.size (by have := HPL.out.2; have := HN.out; omega) ?_; intro v1 w1' hr hB hG hat; rw [HPL2.out] at hr; obtain ⟨Av1, cv1, rfl⟩ := Kd.R_slice hr; have HRA := Aside0.mk hr; have HBA := Aside0.mk hB; have HKA := Aside0.mk (HW.out.2.grown hG (HOG.out)); clear hr hB hG hat; have q7 := HKA.out.cells.2.2.2.2.2.2.2.1; have q8 := HKA.out.cells.2.2.2.2.2.2.2.2.1)
                go_roundg (t.f8.length - (c + 1) + 1)
                case measure => have := HQ.out; have := HHJ.out; omega
                case rel => exact ⟨c + 1, by rw [HKS.out], by first | rfl | rw [e8], ⟨rfl⟩, ⟨HHJ.out⟩, ⟨by rw [chunkL_next, HKS.out, HXK.out, HPL.out.1, HPL2.out]; exact HRA.out⟩, ⟨⟨HBA.out, HKA.out⟩⟩⟩
              · have h2a : (xn == (c : Int) + 1) = false := beq_eq_false_iff_ne.mpr h2
                have h2b : (xn == ((c + 1 : Nat) : Int)) = false := beq_eq_false_iff_ne.mpr (by omega)
                rw [if_neg (fun h => h2 h.2)] at hks
                subst hks
                clear h1 h2 es hj
                have HKS : Aside0 (kSt t.f7 (c + 1) = (kk : Int)) := ⟨hkk⟩
                clear hkk
                go_wp2_with (at_builtin; refine Kd.R_append (Kd.int .i64) (w0 := w) (W := wr) w.heap.size rfl (.tmp 88) (.tmp 95) 23 3 (.int .i64 0) 8 rfl Try.underlying23 info3 rfl (by decide) (by decide) _ pl xk [.int .i64 xk] (fun _ => True) (fun _ => False) rfl rfl (show Kd.M (Kd.int .i64) _ _ _ _ _ from rfl) (fun _ h => h.elim) (fun k hk => trivial) HO.out HW.out.1 HW.out.1.size (by have := HPL.out.2; have := HN.out; omega) ?_; intro v1 w1' hr hB hG hat; rw [HPL2.out] at hr; obtain ⟨Av1, cv1, rfl⟩ := Kd.R_slice hr; have HRA := Aside0.mk hr; have HBA := Aside0.mk hB; have HKA := Aside0.mk (HW.out.2.grown hG (HOG.out)); clear hr hB hG hat; have q7 := HKA.out.cells.2.2.2.2.2.2.2.1; have q8 := HKA.out.cells.2.2.2.2.2.2.2.2.1)
                go_roundg (t.f8.length - (c + 1) + 1)
                case measure => have := HQ.out; have := HHJ.out; omega
                case rel => exact ⟨c + 1, by rw [HKS.out], by first | rfl | rw [e8], ⟨rfl⟩, ⟨HHJ.out⟩, ⟨by rw [chunkL_next, HKS.out, HXK.out, HPL.out.1, HPL2.out]; exact HRA.out⟩, ⟨⟨HBA.out, HKA.out⟩⟩⟩
            · have h1a : decide (k0 + 1 < (t.f7.length : Int)) = false := decide_eq_false h1
              rw [if_neg (fun h => h1 h.1)] at hks
              subst hks
              clear h1 es hj hk3 hk4
              have HKS : Aside0 (kSt t.f7 (c + 1) = (kk : Int)) := ⟨hkk⟩
              clear hkk
              go_wp2_with (at_builtin; refine Kd.R_append (Kd.int .i64) (w0 := w) (W := wr) w.heap.size rfl (.tmp 88) (.tmp 95) 23 3 (.int .i64 0) 8 rfl Try.underlying23 info3 rfl (by decide) (by decide) _ pl xk [.int .i64 xk] (fun _ => True) (fun _ => False) rfl rfl (show Kd.M (Kd.int .i64) _ _ _ _ _ from rfl) (fun _ h => h.elim) (fun k hk => trivial) HO.out HW.out.1 HW.out.1.size (by have := HPL.out.2; have := HN.out; omega) ?_; intro v1 w1' hr hB hG hat; rw [HPL2.out] at hr; obtain ⟨Av1, cv1, rfl⟩ := Kd.R_slice hr; have HRA := Aside0.mk hr; have HBA := Aside0.mk hB; have HKA := Aside0.mk (HW.out.2.grown hG (HOG.out)); clear hr hB hG hat; have q7 := HKA.out.cells.2.2.2.2.2.2.2.1; have q8 := HKA.out.cells.2.2.2.2.2.2.2.2.1)
              go_roundg (t.f8.length - (c + 1) + 1)
              case measure => have := HQ.out; have := HHJ.out; omega
              case rel => exact ⟨c + 1, by rw [HKS.out], by first | rfl | rw [e8], ⟨rfl⟩, ⟨HHJ.out⟩, ⟨by rw [chunkL_next, HKS.out, HXK.out, HPL.out.1, HPL2.out]; exact HRA.out⟩, ⟨⟨HBA.out, HKA.out⟩⟩⟩
          · have hj1 : decide ((c : Int) < (t.f8.length : Int)) = false := decide_eq_false (by omega)
            have hj2 : decide (c < t.f8.length) = false := decide_eq_false hj
            have hj3 : (c < t.f8.length) = False := eq_false hj
            have hce : c = t.f8.length := by have := HI.out; omega
            have HO2 : Aside0 (Kd.R (Kd.int .i64) 3 wr w.heap.size (fun _ => True) _ (chunkL t.f7 t.f8.length)) := ⟨by have h9 := HO.out; rw [hce] at h9; exact h9⟩
            clear hj hce HO
            go_wp2_with fail
            go_ret2
            exact ⟨_, by rw [HOK.out]; rfl, by rw [chunkR_ok HOK.out]; exact HO2.out, HW.out.1⟩
  · have HC : Aside0 (chOk t = false) := ⟨by
      unfold chOk
      by_cases h : t.f7.length = 0
      · have h2 : ¬ t.f8.length = 0 := fun h2 => hE (by rw [h, h2])
        rw [h, decide_eq_true (show 0 < t.f8.length by omega)]; rfl
      · have h2 : t.f8.length = 0 := by
          by_cases h3 : t.f8.length = 0
          · exact h3
          · exact absurd (by rw [eq_false h, eq_false h3]) hE
        rw [h2, decide_eq_true (show 0 < t.f7.length by omega)]; rfl⟩
    have GO : (!((t.f7.length : Int) == 0) == ((t.f8.length : Int) == 0)) = true := by
      by_cases h : t.f7.length = 0
      · have h2 : ¬ t.f8.length = 0 := fun h2 => hE (by rw [h, h2])
        rw [h, beq_eq_false_iff_ne.mpr (show (t.f8.length : Int) ≠ 0 by omega)]; rfl
      · have h2 : t.f8.length = 0 := by
          by_cases h3 : t.f8.length = 0
          · exact h3
          · exact absurd (by rw [eq_false h, eq_false h3]) hE
        rw [h2, beq_eq_false_iff_ne.mpr (show (t.f7.length : Int) ≠ 0 by omega)]; rfl
    clear hE hl7 hl8
    go_wp2_with fail
    go_ret2
    exact ⟨_, by rw [HC.out]; rfl, by rw [chunkR_no HC.out]; exact Kd.R_nil _ _ _ _ _, B1.out⟩
end Go.Proofs.Ytmbhafgnmdfjhaa.QTab
namespace Go.Proofs.Ytmbhafgnmdfjhaa.QTab
open Go.RowKit Go.Proofs.YtmbhafgnmdfjhaaW.PrintWords Go.Proofs.YtmbhafgnmdfjhaaW.PrintLast Go.Proofs.YtmbhafgnmdfjhaaW.PrintMore Go.Proofs.YtmbhafgnmdfjhaaV
set_option linter.unusedVariables false
set_option linter.unusedSimpArgs false
def rbad1 (t : S27) (n T2 T9 : Int) : Bool := decide (0 < t.f2.length) && T2 != n || decide (0 < t.f9.length) && T9 != n
def rbad3 (t : S27) (n : Int) : Bool := decide (0 < t.f10.length) && (t.f10.length : Int) != n
def sumsB (n : Int) : Int → List Int → Bool
  | tot, [] => tot == n
  | tot, x :: r => !decide (n < wrap64 (tot + x)) && sumsB n (wrap64 (tot + x)) r
def rcountsB (t : S27) (n C2 C9 : Int) : Bool :=
  !(rbad1 t n C2 C9) && (!(bad2 t n) && (syncsB n 0 t.f3 && (chOk t && (!(rbad3 t n) && sumsB n 0 (chunkR t)))))
theorem chunkR_len (t : S27) : (chunkR t).length ≤ t.f8.length := by
  unfold chunkR
  split
  · simp [chunkL]
  · simp
set_option maxRecDepth 100000 in
set_option maxHeartbeats 2000000 in
theorem rcounts_calls {w : World} (k : Nat) (t : S27) (d : D27) (hr : R27 w t d) (n T2 T9 : Int) (h2 : dioramaref09_counted.f k t.f2 = some T2) (h9 : dioramaref09_counted.f k t.f9 = some T9) (hn : t.f8.length ≤ 1000000) :
    Calls Try.prog 50 #[.agg (cells27 t d), .int .i64 n] w fun e w' => e = .returned (.bool (rcountsB t n T2 T9)) ∧ Below w.heap.size w w' := by
  have HR := Aside0.mk hr
  have H2 := Aside0.mk h2
  have H9 := Aside0.mk h9
  have HN := Aside0.mk hn
  clear hr h2 h9 hn
  have hu := Try.underlying27
  have hu86 := Try.underlying86
  unfold cells27
  go_enter Try.func50, Try.ntmps50
  obtain ⟨w1, hw1⟩ : ∃ wz, w.alloc (.cells (cells27 t d) 27) = wz := ⟨_, rfl⟩
  obtain ⟨g, hg⟩ : ∃ rz, w.heap.size = rz := ⟨_, rfl⟩
  have B1 : Aside0 (Below w.heap.size w w1) := ⟨by rw [← hw1]; exact below_alloc (Below.refl _ _) _⟩
  have K1 : Aside0 (Box27 w1 g t d) := ⟨by rw [← hw1, ← hg]; exact blk_new w _⟩
  have GE : Aside0 (w.heap.size ≤ g) := ⟨by omega⟩
  unfold cells27 at hw1
  go_upto_region 1 with fail
  clear hw1 hg
  go_cut [33] from 10 to 33 (fun v33 w' => v33 = .bool (rbad1 t n T2 T9) ∧ Aside0 (Below w.heap.size w w' ∧ Box27 w' g t d))
  case first =>
    obtain ⟨q0, q1, q2, q3, q4, q5, q6, q7, q8, q9, q10⟩ := K1.out.cells
    go_wp2_with (first
      | (go_at_call 55; with_reducible refine (dioramaref09_counted.calls k d.A2 d.c2 t.f2 T2 _ (HR.out.below B1.out).r2 HR.out.c2 H2.out).mono ?_; rintro e w2 ⟨rfl, hb0⟩; have B1 := Aside0.mk (below_step B1.out hb0.below); have K1 := Aside0.mk (K1.out.below hb0.below); clear hb0; obtain ⟨q0, q1, q2, q3, q4, q5, q6, q7, q8, q9, q10⟩ := K1.out.cells)
      | (go_at_call 55; with_reducible refine (dioramaref09_counted.calls k d.A9 d.c9 t.f9 T9 _ (HR.out.below B1.out).r9 HR.out.c9 H9.out).mono ?_; rintro e w2 ⟨rfl, hb0⟩; have B1 := Aside0.mk (below_step B1.out hb0.below); have K1 := Aside0.mk (K1.out.below hb0.below); clear hb0; obtain ⟨q0, q1, q2, q3, q4, q5, q6, q7, q8, q9, q10⟩ := K1.out.cells))
    all_goals (go_meet; case rel => exact ⟨by simp [rbad1, *], ⟨B1.out, K1.out⟩⟩)
  case rest =>
  obtain ⟨rfl, h1⟩ := hcut
  have B2 := Aside0.mk h1.out.1
  have K2 := Aside0.mk h1.out.2
  clear h1 B1 K1
  generalize wc = w2 at B2 K2 ⊢
  cases hb1 : rbad1 t n T2 T9 with
  | true =>
    have HB1 := Aside0.mk hb1
    clear hb1
    go_wp2_with fail
    go_ret
    exact ⟨by rw [rcountsB, HB1.out]; rfl, B2.out⟩
  | false =>
  have HB1 := Aside0.mk hb1
  clear hb1
  go_upto_region 3 with fail
  go_cut [0, 64] from 34 to 64 (fun v0 v64 w' => v64 = .bool (bad2 t n) ∧ Aside0 (Below w.heap.size w w' ∧ Box27 w' g t d))
  case first =>
    obtain ⟨q0, q1, q2, q3, q4, q5, q6, q7, q8, q9, q10⟩ := K2.out.cells
    go_wp2_with fail
    all_goals (go_meet; case rel => exact ⟨by first | (simp [bad2, *]; done) | (simp [bad2, *]; intros; omega) | (exfalso; have hq := List.length_pos_iff (l := t.f6); simp_all; done), ⟨B2.out, K2.out⟩⟩)
  case rest =>
  obtain ⟨rfl, h1⟩ := hcut
  have B3 := Aside0.mk h1.out.1
  have K3 := Aside0.mk h1.out.2
  clear h1 B2 K2
  generalize wc = w3 at B3 K3 ⊢
  cases hb1 : bad2 t n with
  | true =>
    have HB2 := Aside0.mk hb1
    clear hb1
    go_wp2_with fail
    go_ret
    exact ⟨by rw [rcountsB, HB1.out, HB2.out]; rfl, B3.out⟩
  | false =>
  have HB2 := Aside0.mk hb1
  clear hb1
  go_wp2_with fail
  go_loopg [5] (t.f3.length + 1) (fun kq v5 w' => ∃ (j : Nat), v5 = .int .i64 (j : Int) ∧ Aside0 (kq = t.f3.length - j + 1) ∧ Aside0 (j ≤ t.f3.length ∧ 0 ≤ prevI t.f3 j ∧ syncsB n 0 t.f3 = syncsB n (prevI t.f3 j) (t.f3.drop j)) ∧ Aside0 (Below w.heap.size w w' ∧ Box27 w' g t d))
  case atStart => exact ⟨0, rfl, ⟨rfl⟩, ⟨⟨Nat.zero_le _, Int.le_refl _, rfl⟩⟩, ⟨⟨B3.out, K3.out⟩⟩⟩
  case round =>
    clear B3 K3
    obtain ⟨j, rfl, HQ, HI, HW⟩ := hrel
    have q3 := HW.out.2.cells.2.2.2.1
    by_cases hj : j < t.f3.length
    · have hj1 : decide ((j : Int) < (t.f3.length : Int)) = true := decide_eq_true (by omega)
      have hj2 : decide (j < t.f3.length) = true := decide_eq_true hj
      have hj3 : (j < t.f3.length) = True := eq_true hj
      have HHJ := Aside0.mk hj
      have e8 : wrap64 ((j : Int) + 1) = ((j + 1 : Nat) : Int) := by have := HR.out.r3.2.1; unfold wrap64; omega
      obtain ⟨ads, es, xs⟩ := Kd.at_int (HR.out.below HW.out.1).r3 (j : Int) (by omega) (by omega)
      rw [es] at q3
      rw [Int.toNat_natCast] at xs
      have HSY : Aside0 (syncsB n 0 t.f3 = (decide (prevI t.f3 j < rd t.f3 j) && decide (rd t.f3 j ≤ n) && syncsB n (rd t.f3 j) (t.f3.drop (j + 1)))) := ⟨by rw [HI.out.2.2, List.drop_eq_getElem_cons hj, syncsB]; simp [rd, List.getD_eq_getElem?_getD, List.getElem?_eq_getElem hj]⟩
      have HPV : Aside0 (prevI t.f3 (j + 1) = rd t.f3 j) := ⟨by simp [prevI]⟩
      have ES := Aside0.mk es
      obtain ⟨s, hs⟩ : ∃ z, rd t.f3 j = z := ⟨_, rfl⟩
      rw [hs] at xs HSY HPV
      obtain ⟨ci, hci⟩ : ∃ z, (decide ((1 : Int) ≤ s) && decide (s ≤ n)) = z := ⟨_, rfl⟩
      have HCI : Aside0 (dioramaref09_in.f s 1 n = some ci) := ⟨by rw [in_f, hci]⟩
      clear hs es
      cases ci with
      | false =>
        have HSZ : Aside0 (syncsB n 0 t.f3 = false) := ⟨by
          rw [HSY.out]
          have h0 := HI.out.2.1
          rw [Bool.and_eq_false_iff] at hci
          rcases hci with h | h
          · rw [decide_eq_false (show ¬ prevI t.f3 j < s by have := of_decide_eq_false h; omega)]; rfl
          · rw [h]; simp⟩
        clear hci hj
        go_wp2_with fail
        repeat (go_quiet (first | (go_at_call 53; exact Calls.quiet_of ((dioramaref09_in.calls s 1 n _ _ HCI.out).mono (fun e w' h => ⟨h.1, h.2.out⟩)))); go_wp2_with fail)
        go_ret
        exact ⟨by rw [rcountsB, HB1.out, HB2.out, HSZ.out]; rfl, pw_below_drewN HW.out.1 _⟩
      | true =>
      rw [Bool.and_eq_true] at hci
      have hs1 := of_decide_eq_true hci.1
      have hs2 := hci.2
      rw [hs2] at HSY
      by_cases hz : j = 0
      · have hz2 : decide (0 < j) = false := decide_eq_false (by omega)
        have hz3 : decide ((0 : Int) < (j : Int)) = false := decide_eq_false (by omega)
        have HSZ : Aside0 (syncsB n 0 t.f3 = syncsB n s (t.f3.drop (j + 1)) ∧ 0 ≤ s) := ⟨by
          rw [HSY.out, decide_eq_true (show prevI t.f3 j < s by rw [prevI, if_pos hz]; omega)]
          exact ⟨rfl, by omega⟩⟩
        clear hci hj hs1 hs2 hz
        go_wp2_with fail
        repeat (go_quiet (first | (go_at_call 53; exact Calls.quiet_of ((dioramaref09_in.calls s 1 n _ _ HCI.out).mono (fun e w' h => ⟨h.1, h.2.out⟩)))); go_wp2_with fail)
        go_roundg (t.f3.length - (j + 1) + 1)
        case measure => have := HQ.out; have := HHJ.out; omega
        case rel => exact ⟨j + 1, by first | rfl | rw [e8], ⟨rfl⟩, ⟨⟨HHJ.out, by rw [HPV.out]; exact HSZ.out.2, by rw [HPV.out]; exact HSZ.out.1⟩⟩, ⟨⟨pw_below_drewN HW.out.1 _, HW.out.2⟩⟩⟩
      · have hz2 : decide (0 < j) = true := decide_eq_true (by omega)
        have hz3 : decide ((0 : Int) < (j : Int)) = true := decide_eq_true (by omega)
        obtain ⟨m, hm⟩ : ∃ m : Nat, (j : Int) - 1 = (m : Int) := ⟨j - 1, by omega⟩
        have hm1 : wrap64 ((j : Int) - 1) = (m : Int) := by have := HR.out.r3.2.1; unfold wrap64; omega
        have hm2 : IntKind.i64.wrap ((j : Int) - 1) = (m : Int) := by rw [IntKind.wrap_i64]; have := HR.out.r3.2.1; omega
        have hm3 : (m < t.f3.length) = True := eq_true (by omega)
        obtain ⟨ads', es', xl'⟩ := Kd.at_int (HR.out.below HW.out.1).r3 (m : Int) (by omega) (by omega)
        rw [ES.out] at es'
        cases es'
        rw [Int.toNat_natCast] at xl'
        have hpv : prevI t.f3 j = rd t.f3 m := by rw [prevI, if_neg hz]; congr 1; omega
        rw [hpv] at HSY
        generalize rd t.f3 m = pv at xl' HSY
        clear hz hm hpv
        by_cases hx : pv < s
        · have hx1 : decide (s ≤ pv) = false := decide_eq_false (by omega)
          have HSZ : Aside0 (syncsB n 0 t.f3 = syncsB n s (t.f3.drop (j + 1)) ∧ 0 ≤ s) := ⟨by rw [HSY.out, decide_eq_true hx]; exact ⟨rfl, by omega⟩⟩
          clear hci hj hs1 hs2 hx
          go_wp2_with fail
          repeat (go_quiet (first | (go_at_call 53; exact Calls.quiet_of ((dioramaref09_in.calls s 1 n _ _ HCI.out).mono (fun e w' h => ⟨h.1, h.2.out⟩)))); go_wp2_with fail)
          go_roundg (t.f3.length - (j + 1) + 1)
          case measure => have := HQ.out; have := HHJ.out; omega
          case rel => exact ⟨j + 1, by first | rfl | rw [e8], ⟨rfl⟩, ⟨⟨HHJ.out, by rw [HPV.out]; exact HSZ.out.2, by rw [HPV.out]; exact HSZ.out.1⟩⟩, ⟨⟨pw_below_drewN HW.out.1 _, HW.out.2⟩⟩⟩
        · have hx1 : decide (s ≤ pv) = true := decide_eq_true (by omega)
          have HSZ : Aside0 (syncsB n 0 t.f3 = false) := ⟨by rw [HSY.out, decide_eq_false hx]; rfl⟩
          clear hci hj hs1 hs2 hx
          go_wp2_with fail
          repeat (go_quiet (first | (go_at_call 53; exact Calls.quiet_of ((dioramaref09_in.calls s 1 n _ _ HCI.out).mono (fun e w' h => ⟨h.1, h.2.out⟩)))); go_wp2_with fail)
          go_ret
          exact ⟨by rw [rcountsB, HB1.out, HB2.out, HSZ.out]; rfl, pw_below_drewN HW.out.1 _⟩
    · have hj1 : decide ((j : Int) < (t.f3.length : Int)) = false := decide_eq_false (by omega)
      have hj2 : decide (j < t.f3.length) = false := decide_eq_false hj
      have hj3 : (j < t.f3.length) = False := eq_false hj
      have HSY : Aside0 (syncsB n 0 t.f3 = true) := ⟨by rw [HI.out.2.2, List.drop_of_length_le (by omega)]; rfl⟩
      have B4 := Aside0.mk HW.out.1
      have K4 := Aside0.mk HW.out.2
      clear hj HI HQ HW q3
      obtain ⟨q0, q1, q2, q3, q4, q5, q6, q7, q8, q9, q10⟩ := K4.out.cells
      go_wp2_with fail
      have HC2 := chunked_calls t d (HR.out.below B4.out) HN.out
      unfold cells27 at HC2
      refine HC2.mono ?_
      rintro e w5 ⟨v5, rfl, s5, hb⟩
      obtain ⟨Al, cl, rfl⟩ := Kd.R_slice s5
      have QL := Aside0.mk (Kd.R_reads' s5).2
      have B5 := Aside0.mk (below_step B4.out hb)
      have K5 := Aside0.mk (K4.out.below hb)
      clear hb B4 K4 s5 HC2 hj1 hj2 hj3
      clear q0 q1 q2 q3 q4 q5 q6 q7 q8 q9 q10
      have HLR := Aside0.mk (chunkR_len t)
      obtain ⟨cl1, hcl⟩ : ∃ z, chunkR t = z := ⟨_, rfl⟩
      rw [hcl] at QL HLR ⊢
      have HCL := Aside0.mk hcl
      clear hcl
      cases hb1 : chOk t with
      | false =>
        have HCK := Aside0.mk hb1
        clear hb1
        have q10 := K5.out.cells.2.2.2.2.2.2.2.2.2.2
        go_wp2_with fail
        go_ret
        exact ⟨by rw [rcountsB, HB1.out, HB2.out, HSY.out, HCK.out]; rfl, B5.out⟩
      | true =>
      have HCK := Aside0.mk hb1
      clear hb1
      go_upto_region 11 with fail
      go_cut [117] from 103 to 117 (fun v117 w' => v117 = .bool (rbad3 t n) ∧ Aside0 (w' = w5))
      case first =>
        have q10 := K5.out.cells.2.2.2.2.2.2.2.2.2.2
        by_cases ho : 0 < t.f10.length
        · have ho1 : decide (0 < t.f10.length) = true := decide_eq_true ho
          have ho2 : (0 < t.f10.length) = True := eq_true ho
          go_wp2_with fail
          go_meet
          case rel => exact ⟨by simp [rbad3, ho], ⟨rfl⟩⟩
        · have ho1 : decide (0 < t.f10.length) = false := decide_eq_false ho
          have ho2 : (0 < t.f10.length) = False := eq_false ho
          go_wp2_with fail
          go_meet
          case rel => exact ⟨by simp [rbad3, ho], ⟨rfl⟩⟩
      case rest =>
      obtain ⟨rfl, h1⟩ := hcut
      have h1 := h1.out
      subst h1
      cases hb1 : rbad3 t n with
      | true =>
        have HB3 := Aside0.mk hb1
        clear hb1
        go_wp2_with fail
        go_ret
        exact ⟨by rw [rcountsB, HB1.out, HB2.out, HSY.out, HCK.out, HB3.out]; rfl, B5.out⟩
      | false =>
      have HB3 := Aside0.mk hb1
      clear hb1
      go_wp2_with fail
      go_loopg [8, 9] (cl1.length + 1) (fun kq v8 v9 w' => ∃ (i : Nat) (tot : Int), v8 = .int .i64 tot ∧ v9 = .int .i64 (i : Int) ∧ Aside0 (kq = cl1.length - i + 1) ∧ Aside0 (i ≤ cl1.length ∧ sumsB n 0 cl1 = sumsB n tot (cl1.drop i)) ∧ Aside0 (w' = wc))
      case atStart => exact ⟨0, 0, rfl, rfl, ⟨rfl⟩, ⟨⟨Nat.zero_le _, rfl⟩⟩, ⟨rfl⟩⟩
      case round =>
        obtain ⟨i, tot, rfl, rfl, HQ, HI, HW⟩ := hrel
        obtain rfl := HW.out
        clear HW
        by_cases hj : i < cl1.length
        · have hj1 : decide ((i : Int) < (cl1.length : Int)) = true := decide_eq_true (by omega)
          have hj2 : decide (i < cl1.length) = true := decide_eq_true hj
          have hj3 : (i < cl1.length) = True := eq_true hj
          have HHJ := Aside0.mk hj
          have e8 : wrap64 ((i : Int) + 1) = ((i + 1 : Nat) : Int) := by have := QL.out.2.2.1; unfold wrap64; omega
          obtain ⟨ads, es, xs⟩ := Kd.at_int QL.out.2 (i : Int) (by omega) (by omega)
          cases es
          rw [Int.toNat_natCast] at xs
          have HSU : Aside0 (sumsB n 0 cl1 = (!decide (n < wrap64 (tot + rd cl1 i)) && sumsB n (wrap64 (tot + rd cl1 i)) (cl1.drop (i + 1)))) := ⟨by rw [HI.out.2, List.drop_eq_getElem_cons hj, sumsB]; simp [rd, List.getD_eq_getElem?_getD, List.getElem?_eq_getElem hj]⟩
          generalize rd cl1 i = x at xs HSU
          obtain ⟨tt, htt⟩ : ∃ z, wrap64 (tot + x) = z := ⟨_, rfl⟩
          rw [htt] at HSU
          clear hj
          by_cases h1 : n < tt
          · have h1a : decide (n < tt) = true := decide_eq_true h1
            have HSZ : Aside0 (sumsB n 0 cl1 = false) := ⟨by rw [HSU.out, h1a]; rfl⟩
            clear h1
            go_wp2_with fail
            go_ret
            exact ⟨by rw [rcountsB, HB1.out, HB2.out, HSY.out, HCK.out, HB3.out, HCL.out, HSZ.out]; rfl, B5.out⟩
          · have h1a : decide (n < tt) = false := decide_eq_false h1
            have HSZ : Aside0 (sumsB n 0 cl1 = sumsB n tt (cl1.drop (i + 1))) := ⟨by rw [HSU.out, h1a]; rfl⟩
            clear h1
            go_wp2_with fail
            go_roundg (cl1.length - (i + 1) + 1)
            case measure => have := HQ.out; have := HHJ.out; omega
            case rel => exact ⟨i + 1, tt, by first | rfl | rw [htt], by first | rfl | rw [e8], ⟨rfl⟩, ⟨⟨HHJ.out, HSZ.out⟩⟩, ⟨rfl⟩⟩
        · have hj1 : decide ((i : Int) < (cl1.length : Int)) = false := decide_eq_false (by omega)
          have hj2 : decide (i < cl1.length) = false := decide_eq_false hj
          have hj3 : (i < cl1.length) = False := eq_false hj
          have HSZ : Aside0 (sumsB n 0 cl1 = (tot == n)) := ⟨by rw [HI.out.2, List.drop_of_length_le (by omega)]; rfl⟩
          clear hj
          go_wp2_with fail
          go_ret
          exact ⟨by rw [rcountsB, HB1.out, HB2.out, HSY.out, HCK.out, HB3.out, HCL.out, HSZ.out]; rfl, B5.out⟩
end Go.Proofs.Ytmbhafgnmdfjhaa.QTab
namespace Go.Proofs.Ytmbhafgnmdfjhaa.QTab
open Go.RowKit Go.Proofs.YtmbhafgnmdfjhaaW.PrintWords Go.Proofs.YtmbhafgnmdfjhaaW.PrintLast Go.Proofs.YtmbhafgnmdfjhaaW.PrintMore Go.Proofs.YtmbhafgnmdfjhaaV
set_option linter.unusedVariables false
set_option linter.unusedSimpArgs false
def rcheckF (t : S27) (C1 C2 C9 te : Int) (fnd : Nat → Bool) : Int :=
  if rgB t = false then 1 else if decide (400 < C1) = true then 2 else if rcountsB t C1 C2 C9 = false then 90
  else if te ≠ 0 then te else if depsB t.f4 fnd 0 t.f10 = false then 32 else 0
structure RChkOk (k : Nat) (t : S27) (C1 C2 C9 te : Int) (hv : Nat → Int) (fnd : Nat → Bool) : Prop where
  ru : RunsOk k t
  t1 : rgB t = true → dioramaref09_Count.f k t.f0 t.f1 t.f2 t.f3 t.f4 t.f5 t.f6 t.f7 t.f8 t.f9 t.f10 = some C1
  t2 : rgB t = true → dioramaref09_counted.f k t.f2 = some C2
  t9 : rgB t = true → dioramaref09_counted.f k t.f9 = some C9
  tm : rgB t = true → ¬ 400 < C1 → rcountsB t C1 C2 C9 = true → dioramaref09_times.f k t.f0 t.f1 t.f2 t.f3 t.f4 t.f5 t.f6 t.f7 t.f8 t.f9 t.f10 C1 = some te
  b : ∀ i : Nat, i < t.f10.length → dioramaref00_HasInt.f k t.f3 ((i : Int) + 1) = some (hv i) ∧ decide (0 ≤ hv i) = fnd i
  n : t.f8.length ≤ 1000000
set_option maxRecDepth 100000 in
set_option maxHeartbeats 4000000 in
theorem rcheck_calls {w : World} (k : Nat) (t : S27) (d : D27) (hr : R27 w t d) (C1 C2 C9 te : Int) (hv : Nat → Int) (fnd : Nat → Bool) (h : RChkOk k t C1 C2 C9 te hv fnd) :
    Calls Try.prog 13 #[.agg (cells27 t d)] w fun e w' => e = .returned (.int .i64 (rcheckF t C1 C2 C9 te fnd)) ∧ Below w.heap.size w w' := by
  have HR := Aside0.mk hr
  have H := Aside0.mk h
  clear hr h
  have hu := Try.underlying27
  have hu86 := Try.underlying86
  unfold cells27
  go_enter Try.func13, Try.ntmps13
  obtain ⟨w1, hw1⟩ : ∃ wz, w.alloc (.cells (cells27 t d) 27) = wz := ⟨_, rfl⟩
  obtain ⟨g, hg⟩ : ∃ rz, w.heap.size = rz := ⟨_, rfl⟩
  have B1 : Aside0 (Below w.heap.size w w1) := ⟨by rw [← hw1]; exact below_alloc (Below.refl _ _) _⟩
  have K1 : Aside0 (Box27 w1 g t d) := ⟨by rw [← hw1, ← hg]; exact blk_new w _⟩
  have GE : Aside0 (w.heap.size ≤ g) := ⟨by omega⟩
  unfold cells27 at hw1
  obtain ⟨q0, q1, q2, q3, q4, q5, q6, q7, q8, q9, q10⟩ := K1.out.cells
  go_wp2_with fail
  clear hw1 hg
  have HC2 := rranges_calls k t d (HR.out.below B1.out) H.out.ru
  unfold cells27 at HC2
  refine HC2.mono ?_
  rintro e w2 ⟨rfl, hb⟩
  have B2 := Aside0.mk (below_step B1.out hb)
  have K2 := Aside0.mk (K1.out.below hb)
  clear hb B1 K1 HC2
  clear q0 q1 q2 q3 q4 q5 q6 q7 q8 q9 q10
  cases hb1 : rgB t with
  | false =>
    have E1 := Aside0.mk hb1
    clear hb1
    go_wp2_with fail
    go_ret
    exact ⟨by rw [rcheckF, if_pos E1.out]; rfl, B2.out⟩
  | true =>
  have E1 := Aside0.mk hb1
  clear hb1
  obtain ⟨q0, q1, q2, q3, q4, q5, q6, q7, q8, q9, q10⟩ := K2.out.cells
  go_wp2_with fail
  have RR := HR.out.below B2.out
  refine (dioramaref09_Count.calls k t.f0 d.A1 d.c1 t.f1 d.A2 d.c2 t.f2 d.A3 d.c3 t.f3 t.f4 t.f5 d.A6 d.c6 t.f6 d.A7 d.c7 t.f7 d.A8 d.c8 t.f8 d.A9 d.c9 t.f9 d.A10 d.c10 t.f10 C1 w2 RR.r1 RR.c1 RR.r2 RR.c2 RR.r3 RR.c3 RR.r6 RR.c6 RR.r7 RR.c7 RR.r8 RR.c8 RR.r9 RR.c9 RR.r10 RR.c10 (H.out.t1 E1.out)).mono ?_
  rintro e w3 ⟨rfl, hb⟩
  have B3 := Aside0.mk (below_step B2.out hb)
  have K3 := Aside0.mk (K2.out.below hb)
  clear hb RR B2 K2
  clear q0 q1 q2 q3 q4 q5 q6 q7 q8 q9 q10
  by_cases h4 : 400 < C1
  · have h4a : decide (400 < C1) = true := decide_eq_true h4
    have E2 := Aside0.mk h4a
    clear h4
    go_wp2_with fail
    go_ret
    exact ⟨by rw [rcheckF, if_neg (by rw [E1.out]; simp), if_pos E2.out]; rfl, B3.out⟩
  have h4a : decide (400 < C1) = false := decide_eq_false h4
  have E2 := Aside0.mk (show C1 ≤ 400 by omega)
  clear h4
  obtain ⟨q0, q1, q2, q3, q4, q5, q6, q7, q8, q9, q10⟩ := K3.out.cells
  go_wp2_with fail
  have HC2 := rcounts_calls k t d (HR.out.below B3.out) C1 C2 C9 (H.out.t2 E1.out) (H.out.t9 E1.out) H.out.n
  unfold cells27 at HC2
  refine HC2.mono ?_
  rintro e w4 ⟨rfl, hb⟩
  have B4 := Aside0.mk (below_step B3.out hb)
  have K4 := Aside0.mk (K3.out.below hb)
  clear hb B3 K3 HC2 h4a
  clear q0 q1 q2 q3 q4 q5 q6 q7 q8 q9 q10
  cases hb1 : rcountsB t C1 C2 C9 with
  | false =>
    have E3 := Aside0.mk hb1
    clear hb1
    go_wp2_with fail
    go_ret
    exact ⟨by rw [rcheckF, if_neg (by rw [E1.out]; simp), if_neg (by have h9 := E2.out; simp; omega), if_pos E3.out]; rfl, B4.out⟩
  | true =>
  have E3 := Aside0.mk hb1
  clear hb1
  have HX : Aside0 (∀ z, (if te ≠ 0 then te else if depsB t.f4 fnd 0 t.f10 = false then 32 else 0) = z → rcheckF t C1 C2 C9 te fnd = z) := ⟨fun z hz => by rw [rcheckF, if_neg (by rw [E1.out]; simp), if_neg (by have h9 := E2.out; simp; omega), if_neg (by rw [E3.out]; simp)]; exact hz⟩
  have HTM := Aside0.mk (H.out.tm E1.out (by have h9 := E2.out; omega) E3.out)
  have BS := Aside0.mk H.out.b
  clear H
  obtain ⟨q0, q1, q2, q3, q4, q5, q6, q7, q8, q9, q10⟩ := K4.out.cells
  go_wp2_with fail
  have RR := HR.out.below B4.out
  refine (dioramaref09_times.calls k t.f0 d.A1 d.c1 t.f1 d.A2 d.c2 t.f2 d.A3 d.c3 t.f3 t.f4 t.f5 d.A6 d.c6 t.f6 d.A7 d.c7 t.f7 d.A8 d.c8 t.f8 d.A9 d.c9 t.f9 d.A10 d.c10 t.f10 C1 te w4 RR.r1 RR.c1 RR.r2 RR.c2 RR.r3 RR.c3 RR.r6 RR.c6 RR.r7 RR.c7 RR.r8 RR.c8 RR.r9 RR.c9 RR.r10 RR.c10 HTM.out).mono ?_
  rintro e w5 ⟨rfl, hb⟩
  have S5 : Aside0 (St4 w w5 g t d) := ⟨⟨below_step B4.out hb, K4.out.below hb, RR.below hb⟩⟩
  clear hb RR B4 K4
  clear q0 q1 q2 q3 q4 q5 q6 q7 q8 q9 q10
  by_cases hte : te = 0
  · have h1 : (te != 0) = false := bne_eq_false_iff_eq.mpr hte
    have HTE := Aside0.mk hte
    clear hte
    go_wp2_with fail
    generalize w5 = w9 at S5 ⊢
    go_loopg [5] (t.f10.length + 1) (fun kq v5 w' => ∃ (i : Nat), v5 = .int .i64 (i : Int) ∧ Aside0 (kq = t.f10.length - i + 1) ∧ Aside0 (i ≤ t.f10.length ∧ depsB t.f4 fnd 0 t.f10 = depsB t.f4 fnd i (t.f10.drop i)) ∧ Aside0 (Below w9.heap.size w9 w'))
    case atStart => exact ⟨0, rfl, ⟨rfl⟩, ⟨⟨Nat.zero_le _, rfl⟩⟩, ⟨Below.refl _ _⟩⟩
    case round =>
      obtain ⟨i, rfl, HQ, HI, HW⟩ := hrel
      obtain ⟨q0, q1, q2, q3, q4, q5, q6, q7, q8, q9, q10⟩ := (S5.out.k.below HW.out).cells
      by_cases hj : i < t.f10.length
      · have hj1 : decide ((i : Int) < (t.f10.length : Int)) = true := decide_eq_true (by omega)
        have hj2 : decide (i < t.f10.length) = true := decide_eq_true hj
        have hj3 : (i < t.f10.length) = True := eq_true hj
        have HHJ := Aside0.mk hj
        have e8 : wrap64 ((i : Int) + 1) = ((i + 1 : Nat) : Int) := by have := S5.out.r.r10.2.1; unfold wrap64; omega
        obtain ⟨ad2, Ar, cr, es, xs, hcr, hRr⟩ := at_L3 (S5.out.r.below HW.out).r10 (i : Int) (by omega) (by omega)
        rw [es] at q10
        rw [Int.toNat_natCast] at xs
        have HDS : Aside0 (depsB t.f4 fnd 0 t.f10 = (!(badD t.f4 (fnd i) (rd_L3 t.f10 i)) && dpB i 0 0 (rd_L3 t.f10 i) && depsB t.f4 fnd (i + 1) (t.f10.drop (i + 1)))) := ⟨by rw [HI.out.2, List.drop_eq_getElem_cons hj, depsB]; simp [rd_L3, List.getD_eq_getElem?_getD, List.getElem?_eq_getElem hj]⟩
        have hbs := BS.out i hj
        have HBS := Aside0.mk hbs.1
        have hfd := hbs.2
        generalize rd_L3 t.f10 i = l at xs HDS hcr hRr
        generalize fnd i = fd at hfd HDS
        generalize hv i = hvi at HBS hfd
        have HFD := Aside0.mk hfd
        obtain ⟨al, hal⟩ : ∃ z, t.f4 = z := ⟨_, rfl⟩
        have HAL := Aside0.mk hal
        have HRR := Aside0.mk hRr
        rw [hal] at q4 HDS
        clear hj hal hcr hRr es hbs hfd
        go_upto_region 15 with fail
        have BC : Aside0 (Below w9.heap.size w9 wr ∧ True) := ⟨⟨HW.out, trivial⟩⟩
        go_cut [56] from 37 to 56 (fun v56 w' => v56 = .bool (badD al fd l) ∧ Aside0 (Below w9.heap.size w9 w' ∧ Below wr.heap.size wr w'))
        case first =>
          by_cases hl4 : 4 < l.length
          · have hl5 : decide (4 < l.length) = true := decide_eq_true hl4
            have hl6 : (4 < l.length) = True := eq_true hl4
            go_wp2_with fail
            all_goals (go_meet; case rel => exact ⟨by simp [badD, hl4], ⟨HW.out, Below.refl _ _⟩⟩)
          · have hl5 : decide (4 < l.length) = false := decide_eq_false hl4
            have hl6 : (4 < l.length) = False := eq_false hl4
            by_cases hl0 : 0 < l.length
            · have hl1 : decide (0 < l.length) = true := decide_eq_true hl0
              have hl2 : (0 < l.length) = True := eq_true hl0
              cases al with
              | true =>
                go_wp2_with fail
                go_meet
                case rel => exact ⟨by first | (simp [badD, hl4, hl0]; done) | (simp [badD, hl4, hl0]; omega), ⟨HW.out, Below.refl _ _⟩⟩
              | false =>
                go_wp2_with fail
                refine (dioramaref00_HasInt.calls k d.A3 d.c3 t.f3 ((i : Int) + 1) hvi _ (S5.out.r.below HW.out).r3 S5.out.r.c3 HBS.out).mono ?_
                rintro e w10 ⟨rfl, hb0⟩
                have hbb := Aside0.mk hb0.below
                clear hb0
                go_wp2_with fail
                go_meet
                case rel => exact ⟨by rw [← HFD.out]; first | (simp [badD, hl4, hl0]; done) | (simp [badD, hl4, hl0]; intros; omega), ⟨below_step HW.out hbb.out, hbb.out⟩⟩
            · have hl1 : decide (0 < l.length) = false := decide_eq_false hl0
              have hl2 : (0 < l.length) = False := eq_false hl0
              go_wp2_with fail
              all_goals (go_meet; case rel => exact ⟨by first | (simp [badD, hl4, hl0]; done) | (simp [badD, hl4, hl0]; omega), ⟨HW.out, Below.refl _ _⟩⟩)
        case rest =>
        obtain ⟨rfl, h1⟩ := hcut
        have HW10 := Aside0.mk h1.out.1
        have HR10 := Aside0.mk (Kd.C_below HRR.out h1.out.2)
        clear h1 HW HRR xs BC
        clear q0 q1 q2 q3 q4 q5 q6 q7 q8 q9 q10
        generalize wc = w11 at HW10 HR10 ⊢
        cases hb1 : badD al fd l with
        | true =>
          have HSZ : Aside0 (depsB t.f4 fnd 0 t.f10 = false) := ⟨by rw [HAL.out, HDS.out, hb1]; rfl⟩
          clear hb1
          go_wp2_with fail
          go_ret
          exact ⟨by rw [HX.out 32 (by rw [if_neg (by simpa using HTE.out), if_pos HSZ.out])]; rfl, below_step S5.out.b HW10.out⟩
        | false =>
        rw [hb1] at HDS
        clear hb1
        go_wp2_with fail
        go_loopg [7] (l.length + 1) (fun kq v7 w' => ∃ (m : Nat), v7 = .int .i64 (m : Int) ∧ Aside0 (kq = l.length - m + 1) ∧ Aside0 (m ≤ l.length ∧ dpB i 0 0 l = dpB i m (prevI l m) (l.drop m)) ∧ Aside0 (Below w11.heap.size w11 w'))
        case atStart => exact ⟨0, rfl, ⟨rfl⟩, ⟨⟨Nat.zero_le _, rfl⟩⟩, ⟨Below.refl _ _⟩⟩
        case round =>
          obtain ⟨m, rfl, MQ, MI, MW⟩ := hrel
          by_cases hm : m < l.length
          · have hm1 : decide ((m : Int) < (l.length : Int)) = true := decide_eq_true (by omega)
            have hm2 : decide (m < l.length) = true := decide_eq_true hm
            have hm3 : (m < l.length) = True := eq_true hm
            have HHM := Aside0.mk hm
            have e9 : wrap64 ((m : Int) + 1) = ((m + 1 : Nat) : Int) := by have := HR10.out.2.1; unfold wrap64; omega
            obtain ⟨adl, el, xl⟩ := Kd.at_int (Kd.C_below HR10.out MW.out) (m : Int) (by omega) (by omega)
            cases el
            rw [Int.toNat_natCast] at xl
            have HDP : Aside0 (dpB i 0 0 l = ((decide ((1 : Int) ≤ rd l m) && decide (rd l m ≤ i)) && (decide (m = 0) || decide (rd l m < prevI l m)) && dpB i (m + 1) (rd l m) (l.drop (m + 1)))) := ⟨by rw [MI.out.2, List.drop_eq_getElem_cons hm, dpB]; simp [rd, List.getD_eq_getElem?_getD, List.getElem?_eq_getElem hm]⟩
            have HPV : Aside0 (prevI l (m + 1) = rd l m) := ⟨by simp [prevI]⟩
            generalize rd l m = x at xl HDP HPV
            obtain ⟨ci, hci⟩ : ∃ z, (decide ((1 : Int) ≤ x) && decide (x ≤ (i : Int))) = z := ⟨_, rfl⟩
            have HCI : Aside0 (dioramaref09_in.f x 1 i = some ci) := ⟨by rw [in_f, hci]⟩
            rw [hci] at HDP
            clear hm hci
            cases ci with
            | false =>
              have HSZ : Aside0 (depsB t.f4 fnd 0 t.f10 = false) := ⟨by rw [HAL.out, HDS.out, HDP.out]; rfl⟩
              go_wp2_with fail
              repeat (go_quiet (first | (go_at_call 53; exact Calls.quiet_of ((dioramaref09_in.calls x 1 i _ _ HCI.out).mono (fun e w' h => ⟨h.1, h.2.out⟩)))); go_wp2_with fail)
              go_ret
              exact ⟨by rw [HX.out 32 (by rw [if_neg (by simpa using HTE.out), if_pos HSZ.out])]; rfl, below_step S5.out.b (below_step HW10.out (pw_below_drewN MW.out _))⟩
            | true =>
            by_cases hm0 : m = 0
            · have hz2 : decide (0 < m) = false := decide_eq_false (by omega)
              have hz3 : decide ((0 : Int) < (m : Int)) = false := decide_eq_false (by omega)
              have HSZ : Aside0 (dpB i 0 0 l = dpB i (m + 1) x (l.drop (m + 1))) := ⟨by rw [HDP.out, decide_eq_true hm0]; rfl⟩
              clear hm0
              go_wp2_with fail
              repeat (go_quiet (first | (go_at_call 53; exact Calls.quiet_of ((dioramaref09_in.calls x 1 i _ _ HCI.out).mono (fun e w' h => ⟨h.1, h.2.out⟩)))); go_wp2_with fail)
              go_roundg (l.length - (m + 1) + 1)
              case measure => have := MQ.out; have := HHM.out; omega
              case rel => exact ⟨m + 1, by first | rfl | rw [e9], ⟨rfl⟩, ⟨⟨HHM.out, by rw [HPV.out]; exact HSZ.out⟩⟩, ⟨pw_below_drewN MW.out _⟩⟩
            · have hz2 : decide (0 < m) = true := decide_eq_true (by omega)
              have hz3 : decide ((0 : Int) < (m : Int)) = true := decide_eq_true (by omega)
              obtain ⟨p, hp⟩ : ∃ p : Nat, (m : Int) - 1 = (p : Int) := ⟨m - 1, by omega⟩
              have hp1 : wrap64 ((m : Int) - 1) = (p : Int) := by have := HR10.out.2.1; have := HHM.out; unfold wrap64; omega
              have hp2 : IntKind.i64.wrap ((m : Int) - 1) = (p : Int) := by rw [IntKind.wrap_i64]; have := HR10.out.2.1; have := HHM.out; omega
              have hp3 : (p < l.length) = True := eq_true (by have := HHM.out; omega)
              obtain ⟨adl', el', xl'⟩ := Kd.at_int (Kd.C_below HR10.out MW.out) (p : Int) (by omega) (by have := HHM.out; omega)
              cases el'
              rw [Int.toNat_natCast] at xl'
              have hpv : prevI l m = rd l p := by rw [prevI, if_neg hm0]; congr 1; omega
              rw [hpv, decide_eq_false hm0] at HDP
              generalize rd l p = pv at xl' HDP
              clear hm0 hp hpv
              by_cases hxp : x < pv
              · have hxp1 : decide (pv ≤ x) = false := decide_eq_false (by omega)
                have HSZ : Aside0 (dpB i 0 0 l = dpB i (m + 1) x (l.drop (m + 1))) := ⟨by rw [HDP.out, decide_eq_true hxp]; rfl⟩
                clear hxp
                go_wp2_with fail
                repeat (go_quiet (first | (go_at_call 53; exact Calls.quiet_of ((dioramaref09_in.calls x 1 i _ _ HCI.out).mono (fun e w' h => ⟨h.1, h.2.out⟩)))); go_wp2_with fail)
                go_roundg (l.length - (m + 1) + 1)
                case measure => have := MQ.out; have := HHM.out; omega
                case rel => exact ⟨m + 1, by first | rfl | rw [e9], ⟨rfl⟩, ⟨⟨HHM.out, by rw [HPV.out]; exact HSZ.out⟩⟩, ⟨pw_below_drewN MW.out _⟩⟩
              · have hxp1 : decide (pv ≤ x) = true := decide_eq_true (by omega)
                have HSZ : Aside0 (depsB t.f4 fnd 0 t.f10 = false) := ⟨by rw [HAL.out, HDS.out, HDP.out, decide_eq_false hxp]; rfl⟩
                clear hxp
                go_wp2_with fail
                repeat (go_quiet (first | (go_at_call 53; exact Calls.quiet_of ((dioramaref09_in.calls x 1 i _ _ HCI.out).mono (fun e w' h => ⟨h.1, h.2.out⟩)))); go_wp2_with fail)
                go_ret
                exact ⟨by rw [HX.out 32 (by rw [if_neg (by simpa using HTE.out), if_pos HSZ.out])]; rfl, below_step S5.out.b (below_step HW10.out (pw_below_drewN MW.out _))⟩
          · have hm1 : decide ((m : Int) < (l.length : Int)) = false := decide_eq_false (by omega)
            have hm2 : decide (m < l.length) = false := decide_eq_false hm
            have hm3 : (m < l.length) = False := eq_false hm
            have HDP : Aside0 (dpB i 0 0 l = true) := ⟨by rw [MI.out.2, List.drop_of_length_le (by omega)]; rfl⟩
            have HSZ : Aside0 (depsB t.f4 fnd 0 t.f10 = depsB t.f4 fnd (i + 1) (t.f10.drop (i + 1))) := ⟨by rw [HAL.out, HDS.out, HDP.out]; rfl⟩
            clear hm
            go_wp2_with fail
            go_roundg (t.f10.length - (i + 1) + 1)
            case measure => have := HQ.out; have := HHJ.out; omega
            case rel => exact ⟨i + 1, by first | rfl | rw [e8], ⟨rfl⟩, ⟨⟨HHJ.out, HSZ.out⟩⟩, ⟨below_step HW10.out MW.out⟩⟩
      · have hj1 : decide ((i : Int) < (t.f10.length : Int)) = false := decide_eq_false (by omega)
        have hj2 : decide (i < t.f10.length) = false := decide_eq_false hj
        have hj3 : (i < t.f10.length) = False := eq_false hj
        have HSZ : Aside0 (depsB t.f4 fnd 0 t.f10 = true) := ⟨by rw [HI.out.2, List.drop_of_length_le (by omega)]; rfl⟩
        clear hj
        go_wp2_with fail
        go_ret
        exact ⟨by rw [HX.out 0 (by rw [if_neg (by simpa using HTE.out), if_neg (by rw [HSZ.out]; simp)])]; rfl, below_step S5.out.b HW.out⟩
  · have h1 : (te != 0) = true := bne_iff_ne.mpr hte
    have HTE := Aside0.mk hte
    clear hte
    go_wp2_with fail
    go_ret
    exact ⟨by rw [HX.out te (by rw [if_pos HTE.out])]; rfl, S5.out.b⟩
end Go.Proofs.Ytmbhafgnmdfjhaa.QTab
