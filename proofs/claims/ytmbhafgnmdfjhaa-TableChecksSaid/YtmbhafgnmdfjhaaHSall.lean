/- A lemma file: dioramalaw09.small, table.Same, dioramaref00.EqTables, walked. No condition. A lemma file: slices.EqualFunc over rows, table.Same, dioramaref00.EqTables, walked. No condition. -/
import Derived.Test.YtmbhafgnmdfjhaaHT
import Derived.Test.YtmbhafgnmdfjhaaQTabx13
import Derived.Test.YtmbhafgnmdfjhaaQTabx14
import Derived.Test.YtmbhafgnmdfjhaaQTabx15
import Derived.Test.YtmbhafgnmdfjhaaQTabx16
import Derived.Test.YtmbhafgnmdfjhaaQTabx17
import Derived.Test.YtmbhafgnmdfjhaaQTabx18
import Derived.Test.YtmbhafgnmdfjhaaQTabx19
namespace Go.Proofs.Ytmbhafgnmdfjhaa.QTab
open Go.RowKit Go.Proofs.YtmbhafgnmdfjhaaW.PrintWords Go.Proofs.YtmbhafgnmdfjhaaW.PrintLast Go.Proofs.YtmbhafgnmdfjhaaW.PrintMore Go.Proofs.YtmbhafgnmdfjhaaV
set_option linter.unusedVariables false
set_option linter.unusedSimpArgs false
def smallB (t : S27) : Bool := !(t.f10.any fun l => decide (100 < l.length)) && (decide (t.f1.length ≤ 1000) && decide (t.f2.length ≤ 1000) && decide (t.f9.length ≤ 1000) && decide (t.f3.length ≤ 1000) && decide (t.f6.length ≤ 1000) && decide (t.f7.length ≤ 1000) && decide (t.f8.length ≤ 1000) && decide (t.f10.length ≤ 1000))
set_option maxRecDepth 100000 in
set_option maxHeartbeats 2000000 in
theorem small_calls {w : World} (t : S27) (d : D27) (hr : R27 w t d) :
    Calls Try.prog 11 #[.agg (cells27 t d)] w fun e w' => e = .returned (.bool (smallB t)) ∧ Below w.heap.size w w' := by
  have HR := Aside0.mk hr
  clear hr
  have hu := Try.underlying27
  have hu86 := Try.underlying86
  unfold cells27
  go_enter Try.func11, Try.ntmps11
  obtain ⟨w1, hw1⟩ : ∃ wz, w.alloc (.cells (cells27 t d) 27) = wz := ⟨_, rfl⟩
  obtain ⟨g, hg⟩ : ∃ rz, w.heap.size = rz := ⟨_, rfl⟩
  have B1 : Aside0 (Below w.heap.size w w1) := ⟨by rw [← hw1]; exact below_alloc (Below.refl _ _) _⟩
  have K1 : Aside0 (Box27 w1 g t d) := ⟨by rw [← hw1, ← hg]; exact blk_new w _⟩
  have GE : Aside0 (w.heap.size ≤ g) := ⟨by omega⟩
  unfold cells27 at hw1
  obtain ⟨q0, q1, q2, q3, q4, q5, q6, q7, q8, q9, q10⟩ := K1.out.cells
  go_wp2_with fail
  clear hw1 hg
  clear q0 q1 q2 q3 q4 q5 q6 q7 q8 q9 q10
  go_loopg [3] (t.f10.length + 1) (fun kq v3 w' => ∃ (i : Nat), v3 = .int .i64 (i : Int) ∧ Aside0 (kq = t.f10.length - i + 1) ∧ Aside0 (i ≤ t.f10.length ∧ (t.f10.take i).any (fun l => decide (100 < l.length)) = false) ∧ Aside0 (w' = w1))
  case atStart => exact ⟨0, rfl, ⟨rfl⟩, ⟨⟨Nat.zero_le _, rfl⟩⟩, ⟨rfl⟩⟩
  case round =>
    obtain ⟨i, rfl, HQ, HI, HW⟩ := hrel
    obtain rfl := HW.out
    clear HW
    obtain ⟨q0, q1, q2, q3, q4, q5, q6, q7, q8, q9, q10⟩ := K1.out.cells
    by_cases hj : i < t.f10.length
    · have hj1 : decide ((i : Int) < (t.f10.length : Int)) = true := decide_eq_true (by omega)
      have hj2 : decide (i < t.f10.length) = true := decide_eq_true hj
      have hj3 : (i < t.f10.length) = True := eq_true hj
      have HHJ := Aside0.mk hj
      have e8 : wrap64 ((i : Int) + 1) = ((i + 1 : Nat) : Int) := by have := HR.out.r10.2.1; unfold wrap64; omega
      obtain ⟨ad2, Ar, cr, es, xs, hcr, hRr⟩ := at_L3 (HR.out.below B1.out).r10 (i : Int) (by omega) (by omega)
      rw [es] at q10
      rw [Int.toNat_natCast] at xs
      have HTK : Aside0 ((t.f10.take (i + 1)).any (fun l => decide (100 < l.length)) = decide (100 < (rd_L3 t.f10 i).length)) := ⟨by rw [List.take_add_one, List.any_append, HI.out.2]; simp [rd_L3, List.getD_eq_getElem?_getD, List.getElem?_eq_getElem hj]⟩
      have HAN : Aside0 (100 < (rd_L3 t.f10 i).length → t.f10.any (fun l => decide (100 < l.length)) = true) := ⟨fun h => List.any_eq_true.mpr ⟨t.f10[i], List.getElem_mem _, by rw [show t.f10[i] = rd_L3 t.f10 i from by simp [rd_L3, List.getD_eq_getElem?_getD, List.getElem?_eq_getElem hj]]; exact decide_eq_true h⟩⟩
      generalize rd_L3 t.f10 i = l at xs HTK HAN hcr hRr
      clear hj es hcr hRr
      by_cases h1 : 100 < l.length
      · have h1a : decide (100 < l.length) = true := decide_eq_true h1
        have h1b : decide ((100 : Int) < (l.length : Int)) = true := decide_eq_true (by omega)
        have HSZ := Aside0.mk (HAN.out h1)
        clear h1
        go_wp2_with fail
        go_ret
        exact ⟨by rw [smallB, HSZ.out]; rfl, B1.out⟩
      · have h1a : decide (100 < l.length) = false := decide_eq_false h1
        have h1b : decide ((100 : Int) < (l.length : Int)) = false := decide_eq_false (by omega)
        rw [h1a] at HTK
        clear h1
        go_wp2_with fail
        go_roundg (t.f10.length - (i + 1) + 1)
        case measure => have := HQ.out; have := HHJ.out; omega
        case rel => exact ⟨i + 1, by first | rfl | rw [e8], ⟨rfl⟩, ⟨⟨HHJ.out, HTK.out⟩⟩, ⟨rfl⟩⟩
    · have hj1 : decide ((i : Int) < (t.f10.length : Int)) = false := decide_eq_false (by omega)
      have hj2 : decide (i < t.f10.length) = false := decide_eq_false hj
      have hj3 : (i < t.f10.length) = False := eq_false hj
      have HSZ : Aside0 (t.f10.any (fun l => decide (100 < l.length)) = false) := ⟨by have h9 := HI.out.2; rwa [List.take_of_length_le (by omega)] at h9⟩
      clear hj
      have HD : Aside0 (smallB t = (decide (t.f1.length ≤ 1000) && decide (t.f2.length ≤ 1000) && decide (t.f9.length ≤ 1000) && decide (t.f3.length ≤ 1000) && decide (t.f6.length ≤ 1000) && decide (t.f7.length ≤ 1000) && decide (t.f8.length ≤ 1000) && decide (t.f10.length ≤ 1000))) := ⟨by rw [smallB, HSZ.out]; rfl⟩
      obtain ⟨g1, hg1⟩ : ∃ z, decide ((t.f1.length : Int) ≤ 1000) = z := ⟨_, rfl⟩
      have hh1 : decide (t.f1.length ≤ 1000) = g1 := by rw [← hg1]; exact decide_eq_decide.mpr (by omega)
      rw [hh1] at HD
      obtain ⟨g2, hg2⟩ : ∃ z, decide ((t.f2.length : Int) ≤ 1000) = z := ⟨_, rfl⟩
      have hh2 : decide (t.f2.length ≤ 1000) = g2 := by rw [← hg2]; exact decide_eq_decide.mpr (by omega)
      rw [hh2] at HD
      obtain ⟨g9, hg9⟩ : ∃ z, decide ((t.f9.length : Int) ≤ 1000) = z := ⟨_, rfl⟩
      have hh9 : decide (t.f9.length ≤ 1000) = g9 := by rw [← hg9]; exact decide_eq_decide.mpr (by omega)
      rw [hh9] at HD
      obtain ⟨g3, hg3⟩ : ∃ z, decide ((t.f3.length : Int) ≤ 1000) = z := ⟨_, rfl⟩
      have hh3 : decide (t.f3.length ≤ 1000) = g3 := by rw [← hg3]; exact decide_eq_decide.mpr (by omega)
      rw [hh3] at HD
      obtain ⟨g6, hg6⟩ : ∃ z, decide ((t.f6.length : Int) ≤ 1000) = z := ⟨_, rfl⟩
      have hh6 : decide (t.f6.length ≤ 1000) = g6 := by rw [← hg6]; exact decide_eq_decide.mpr (by omega)
      rw [hh6] at HD
      obtain ⟨g7, hg7⟩ : ∃ z, decide ((t.f7.length : Int) ≤ 1000) = z := ⟨_, rfl⟩
      have hh7 : decide (t.f7.length ≤ 1000) = g7 := by rw [← hg7]; exact decide_eq_decide.mpr (by omega)
      rw [hh7] at HD
      obtain ⟨g8, hg8⟩ : ∃ z, decide ((t.f8.length : Int) ≤ 1000) = z := ⟨_, rfl⟩
      have hh8 : decide (t.f8.length ≤ 1000) = g8 := by rw [← hg8]; exact decide_eq_decide.mpr (by omega)
      rw [hh8] at HD
      obtain ⟨g10, hg10⟩ : ∃ z, decide ((t.f10.length : Int) ≤ 1000) = z := ⟨_, rfl⟩
      have hh10 : decide (t.f10.length ≤ 1000) = g10 := by rw [← hg10]; exact decide_eq_decide.mpr (by omega)
      rw [hh10] at HD
      clear hh1 hh2 hh9 hh3 hh6 hh7 hh8 hh10
      cases g1 with
      | false =>
        go_wp2_with fail
        go_ret
        exact ⟨by rw [HD.out]; first | done | rfl | (simp; done), B1.out⟩
      | true =>
      cases g2 with
      | false =>
        go_wp2_with fail
        go_ret
        exact ⟨by rw [HD.out]; first | done | rfl | (simp; done), B1.out⟩
      | true =>
      cases g9 with
      | false =>
        go_wp2_with fail
        go_ret
        exact ⟨by rw [HD.out]; first | done | rfl | (simp; done), B1.out⟩
      | true =>
      cases g3 with
      | false =>
        go_wp2_with fail
        go_ret
        exact ⟨by rw [HD.out]; first | done | rfl | (simp; done), B1.out⟩
      | true =>
      cases g6 with
      | false =>
        go_wp2_with fail
        go_ret
        exact ⟨by rw [HD.out]; first | done | rfl | (simp; done), B1.out⟩
      | true =>
      cases g7 with
      | false =>
        go_wp2_with fail
        go_ret
        exact ⟨by rw [HD.out]; first | done | rfl | (simp; done), B1.out⟩
      | true =>
      cases g8 with
      | false =>
        go_wp2_with fail
        go_ret
        exact ⟨by rw [HD.out]; first | done | rfl | (simp; done), B1.out⟩
      | true =>
      cases g10 with
      | false =>
        go_wp2_with fail
        go_ret
        exact ⟨by rw [HD.out]; first | done | rfl | (simp; done), B1.out⟩
      | true =>
      go_wp2_with fail
      go_ret
      exact ⟨by rw [HD.out]; rfl, B1.out⟩
end Go.Proofs.Ytmbhafgnmdfjhaa.QTab
namespace Go.Proofs.Ytmbhafgnmdfjhaa.QTab
open Go.RowKit Go.Proofs.YtmbhafgnmdfjhaaW.PrintWords Go.Proofs.YtmbhafgnmdfjhaaW.PrintLast Go.Proofs.YtmbhafgnmdfjhaaW.PrintMore Go.Proofs.YtmbhafgnmdfjhaaV
set_option linter.unusedVariables false
set_option linter.unusedSimpArgs false
set_option maxRecDepth 100000 in
set_option maxHeartbeats 2000000 in
theorem eqf_calls {w : World} (k : Nat) (A0 : Option Addr) (c0 : Nat) (l0 : List (List Int)) (A1 : Option Addr) (c1 : Nat) (l1 : List (List Int)) (hr0 : Kd.C (Kd.slice 3 (Kd.int .i64)) w A0 l0.length l0) (hr1 : Kd.C (Kd.slice 3 (Kd.int .i64)) w A1 l1.length l1)
    (h : ∀ x y : List Int, x ∈ l0 → slices_Equal_int_int.f k x y = some (decide (x = y))) :
    Calls Try.prog 59 #[.slice A0 l0.length c0, .slice A1 l1.length c1, .func (.func 57) #[] #[]] w fun e w' => e = .returned (.bool (decide (l0 = l1))) ∧ Below w.heap.size w w' := by
  have HR0 := Aside0.mk hr0
  have HR1 := Aside0.mk hr1
  have H := Aside0.mk h
  clear hr0 hr1 h
  by_cases hl : l0.length = l1.length
  · have y1 : ((l0.length : Int) != (l1.length : Int)) = false := bne_eq_false_iff_eq.mpr (by omega)
    have HL := Aside0.mk hl
    clear hl
    go_enter Try.func59, Try.ntmps59
    go_wp2_with fail
    clear y1
    go_loopg [17] (l0.length + 1) (fun kq v17 w' => ∃ (i : Nat), v17 = .int .i64 (i : Int) ∧ Aside0 (kq = l0.length - i + 1) ∧ Aside0 (i ≤ l0.length ∧ decide (l0 = l1) = decide (l0.drop i = l1.drop i)) ∧ Aside0 (Below w.heap.size w w'))
    case atStart => exact ⟨0, rfl, ⟨rfl⟩, ⟨⟨Nat.zero_le _, rfl⟩⟩, ⟨Below.refl _ _⟩⟩
    case round =>
      obtain ⟨i, rfl, HQ, HI, HW⟩ := hrel
      by_cases hj : i < l0.length
      · have hj1 : decide ((i : Int) < (l0.length : Int)) = true := decide_eq_true (by omega)
        have hj2 : decide (i < l0.length) = true := decide_eq_true hj
        have hj3 : (i < l0.length) = True := eq_true hj
        have HHJ := Aside0.mk hj
        have hk2 : (i < l1.length) = True := eq_true (by have := HL.out; omega)
        have hk3 : decide (i < l1.length) = true := decide_eq_true (by have := HL.out; omega)
        have hk4 : decide ((i : Int) < (l1.length : Int)) = true := decide_eq_true (by have := HL.out; omega)
        have e8 : wrap64 ((i : Int) + 1) = ((i + 1 : Nat) : Int) := by have := HR0.out.2.1; unfold wrap64; omega
        obtain ⟨ad0, B0, d0, es0, xs0, hc0, hR0⟩ := at_L3 (Kd.C_below HR0.out HW.out) (i : Int) (by omega) (by omega)
        obtain ⟨ad1, B1, d1, es1, xs1, hc1, hR1⟩ := at_L3 (Kd.C_below HR1.out HW.out) (i : Int) (by omega) (by have := HL.out; omega)
        cases es0
        cases es1
        rw [Int.toNat_natCast] at xs0 xs1
        have hm : rd_L3 l0 i ∈ l0 := by rw [show rd_L3 l0 i = l0[i] from by simp [rd_L3, List.getD_eq_getElem?_getD, List.getElem?_eq_getElem hj]]; exact List.getElem_mem _
        have hj' : i < l1.length := by have := HL.out; omega
        have HD : Aside0 (decide (l0 = l1) = (decide (rd_L3 l0 i = rd_L3 l1 i) && decide (l0.drop (i + 1) = l1.drop (i + 1)))) := ⟨by
          rw [HI.out.2, show l0.drop i = rd_L3 l0 i :: l0.drop (i + 1) from by rw [List.drop_eq_getElem_cons hj]; simp [rd_L3, List.getD_eq_getElem?_getD, List.getElem?_eq_getElem hj], show l1.drop i = rd_L3 l1 i :: l1.drop (i + 1) from by rw [List.drop_eq_getElem_cons hj']; simp [rd_L3, List.getD_eq_getElem?_getD, List.getElem?_eq_getElem hj']]
          simp only [List.cons.injEq, Bool.decide_and]⟩
        have HF := Aside0.mk (H.out _ (rd_L3 l1 i) hm)
        generalize rd_L3 l0 i = x at xs0 hc0 hR0 HD HF
        generalize rd_L3 l1 i = y at xs1 hc1 hR1 HD HF
        obtain ⟨b, hb⟩ : ∃ z, decide (x = y) = z := ⟨_, rfl⟩
        rw [hb] at HF HD
        have R0 := Aside0.mk hR0
        have R1 := Aside0.mk hR1
        have D0 := Aside0.mk hc0
        have D1 := Aside0.mk hc1
        clear hb hj hj' hm hR0 hR1 hc0 hc1
        go_wp2_with fail
        refine (slices_Equal_int_int.calls k B0 d0 x B1 d1 y b _ R0.out D0.out R1.out D1.out HF.out).mono ?_
        rintro e w2 ⟨rfl, hb0⟩
        have W2 := Aside0.mk (below_step HW.out hb0.below)
        clear hb0 HW xs0 xs1
        cases b with
        | false =>
          go_wp2_with fail
          go_ret
          exact ⟨by rw [HD.out]; rfl, W2.out⟩
        | true =>
          go_wp2_with fail
          go_roundg (l0.length - (i + 1) + 1)
          case measure => have := HQ.out; have := HHJ.out; omega
          case rel => exact ⟨i + 1, by first | rfl | rw [e8], ⟨rfl⟩, ⟨⟨HHJ.out, by rw [HD.out]; rfl⟩⟩, W2⟩
      · have hj1 : decide ((i : Int) < (l0.length : Int)) = false := decide_eq_false (by omega)
        have hj2 : decide (i < l0.length) = false := decide_eq_false hj
        have hj3 : (i < l0.length) = False := eq_false hj
        have HZ : Aside0 (decide (l0 = l1) = true) := ⟨by rw [HI.out.2, List.drop_of_length_le (by omega), List.drop_of_length_le (by have := HL.out; omega)]; rfl⟩
        clear hj
        go_wp2_with fail
        go_ret
        exact ⟨by rw [HZ.out]; rfl, HW.out⟩
  · have y1 : ((l0.length : Int) != (l1.length : Int)) = true := bne_iff_ne.mpr (by omega)
    have HZ : Aside0 (decide (l0 = l1) = false) := ⟨decide_eq_false (fun h => hl (by rw [h]))⟩
    clear hl
    go_enter Try.func59, Try.ntmps59
    go_wp2_with fail
    go_ret
    exact ⟨by rw [HZ.out]; rfl, Below.refl _ _⟩
set_option maxRecDepth 100000 in
set_option maxHeartbeats 4000000 in
theorem same_calls {w : World} (k : Nat) (t : S27) (d : D27) (u : S27) (e : D27) (hr : R27 w t d) (hs : R27 w u e) (b1 : Bool) (h1 : api_Run_56.f k t.f1 u.f1 = some b1) (b2 : Bool) (h2 : api_Run_56.f k t.f2 u.f2 = some b2) (b3 : Bool) (h3 : slices_Equal_int_int.f k t.f3 u.f3 = some b3) (b6 : Bool) (h6 : slices_Equal_int_int.f k t.f6 u.f6 = some b6) (b7 : Bool) (h7 : api_Chunks_58.f k t.f7 u.f7 = some b7) (b8 : Bool) (h8 : slices_Equal_int_int.f k t.f8 u.f8 = some b8) (b9 : Bool) (h9 : api_Run_56.f k t.f9 u.f9 = some b9) (h10 : ∀ x y : List Int, x ∈ t.f10 → slices_Equal_int_int.f k x y = some (decide (x = y))) :
    Calls Try.prog 16 #[.agg (cells27 t d), .agg (cells27 u e)] w fun e w' => e = .returned (.bool ((t.f0 == u.f0) && (b1 && (b2 && (b3 && ((t.f4 == u.f4) && ((t.f5 == u.f5) && (b6 && (b7 && (b8 && (b9 && decide (t.f10 = u.f10)))))))))))) ∧ Below w.heap.size w w' := by
  have HR := Aside0.mk hr
  have HS := Aside0.mk hs
  have H1 := Aside0.mk h1
  have H2 := Aside0.mk h2
  have H3 := Aside0.mk h3
  have H6 := Aside0.mk h6
  have H7 := Aside0.mk h7
  have H8 := Aside0.mk h8
  have H9 := Aside0.mk h9
  have H10 := Aside0.mk h10
  clear hr hs h1 h2 h3 h6 h7 h8 h9 h10
  obtain ⟨R, hR⟩ : ∃ R, ((t.f0 == u.f0) && (b1 && (b2 && (b3 && ((t.f4 == u.f4) && ((t.f5 == u.f5) && (b6 && (b7 && (b8 && (b9 && decide (t.f10 = u.f10))))))))))) = R := ⟨_, rfl⟩
  have HRS := Aside0.mk hR
  rw [hR]
  clear hR
  have hu := Try.underlying27
  unfold cells27
  go_enter Try.func16, Try.ntmps16
  obtain ⟨w1, hw1⟩ : ∃ wz, w.alloc (.cells (cells27 t d) 27) = wz := ⟨_, rfl⟩
  obtain ⟨w2, hw2⟩ : ∃ wz, w1.alloc (.cells (cells27 u e) 27) = wz := ⟨_, rfl⟩
  obtain ⟨g, hg⟩ : ∃ rz, w.heap.size = rz := ⟨_, rfl⟩
  obtain ⟨g2, hg2⟩ : ∃ rz, w1.heap.size = rz := ⟨_, rfl⟩
  have hb1 : Below w.heap.size w w1 := by rw [← hw1]; exact below_alloc (Below.refl _ _) _
  have hb2 : Below w1.heap.size w1 w2 := by rw [← hw2]; exact below_alloc (Below.refl _ _) _
  have B1 : Aside0 (Below w.heap.size w w2) := ⟨below_step hb1 hb2⟩
  have K1 : Aside0 (Box27 w2 g t d) := ⟨Box27.below (by rw [← hw1, ← hg]; exact blk_new w _) hb2⟩
  have K2 : Aside0 (Box27 w2 g2 u e) := ⟨by rw [← hw2, ← hg2]; exact blk_new w1 _⟩
  clear hb1 hb2
  unfold cells27 at hw1 hw2
  go_upto_region 1 with fail
  clear hw1 hw2 hg hg2
  obtain ⟨q0, q1, q2, q3, q4, q5, q6, q7, q8, q9, q10⟩ := K1.out.cells
  obtain ⟨r0, r1, r2, r3, r4, r5, r6, r7, r8, r9, r10⟩ := K2.out.cells
  obtain ⟨x4, hx4⟩ : ∃ z, t.f4 = z := ⟨_, rfl⟩
  obtain ⟨y4, hy4⟩ : ∃ z, u.f4 = z := ⟨_, rfl⟩
  rw [hx4] at q4 HRS
  rw [hy4] at r4 HRS
  obtain ⟨s0, hs0⟩ : ∃ z, (t.f0 == u.f0) = z := ⟨_, rfl⟩
  obtain ⟨s5, hs5⟩ : ∃ z, (t.f5 == u.f5) = z := ⟨_, rfl⟩
  rw [hs0, hs5] at HRS
  have X4 := Aside0.mk hx4
  have Y4 := Aside0.mk hy4
  clear hx4 hy4
  go_wp2_with (first
    | (go_at_call 56; with_reducible refine (api_Run_56.calls k d.A1 d.c1 t.f1 e.A1 e.c1 u.f1 b1 _ (HR.out.below B1.out).r1 HR.out.c1 (HS.out.below B1.out).r1 HS.out.c1 H1.out).mono ?_; rintro ee w3 ⟨rfl, hb⟩; have K1 := Aside0.mk (K1.out.below hb.below); have K2 := Aside0.mk (K2.out.below hb.below); have B1 := Aside0.mk (below_step B1.out hb.below); clear hb; obtain ⟨q0, q1, q2, q3, q4, q5, q6, q7, q8, q9, q10⟩ := K1.out.cells; obtain ⟨r0, r1, r2, r3, r4, r5, r6, r7, r8, r9, r10⟩ := K2.out.cells; rw [X4.out] at q4; rw [Y4.out] at r4)
    | (go_at_call 56; with_reducible refine (api_Run_56.calls k d.A2 d.c2 t.f2 e.A2 e.c2 u.f2 b2 _ (HR.out.below B1.out).r2 HR.out.c2 (HS.out.below B1.out).r2 HS.out.c2 H2.out).mono ?_; rintro ee w3 ⟨rfl, hb⟩; have K1 := Aside0.mk (K1.out.below hb.below); have K2 := Aside0.mk (K2.out.below hb.below); have B1 := Aside0.mk (below_step B1.out hb.below); clear hb; obtain ⟨q0, q1, q2, q3, q4, q5, q6, q7, q8, q9, q10⟩ := K1.out.cells; obtain ⟨r0, r1, r2, r3, r4, r5, r6, r7, r8, r9, r10⟩ := K2.out.cells; rw [X4.out] at q4; rw [Y4.out] at r4)
    | (go_at_call 57; with_reducible refine (slices_Equal_int_int.calls k d.A3 d.c3 t.f3 e.A3 e.c3 u.f3 b3 _ (HR.out.below B1.out).r3 HR.out.c3 (HS.out.below B1.out).r3 HS.out.c3 H3.out).mono ?_; rintro ee w3 ⟨rfl, hb⟩; have K1 := Aside0.mk (K1.out.below hb.below); have K2 := Aside0.mk (K2.out.below hb.below); have B1 := Aside0.mk (below_step B1.out hb.below); clear hb; obtain ⟨q0, q1, q2, q3, q4, q5, q6, q7, q8, q9, q10⟩ := K1.out.cells; obtain ⟨r0, r1, r2, r3, r4, r5, r6, r7, r8, r9, r10⟩ := K2.out.cells; rw [X4.out] at q4; rw [Y4.out] at r4)
    | (go_at_call 57; with_reducible refine (slices_Equal_int_int.calls k d.A6 d.c6 t.f6 e.A6 e.c6 u.f6 b6 _ (HR.out.below B1.out).r6 HR.out.c6 (HS.out.below B1.out).r6 HS.out.c6 H6.out).mono ?_; rintro ee w3 ⟨rfl, hb⟩; have K1 := Aside0.mk (K1.out.below hb.below); have K2 := Aside0.mk (K2.out.below hb.below); have B1 := Aside0.mk (below_step B1.out hb.below); clear hb; obtain ⟨q0, q1, q2, q3, q4, q5, q6, q7, q8, q9, q10⟩ := K1.out.cells; obtain ⟨r0, r1, r2, r3, r4, r5, r6, r7, r8, r9, r10⟩ := K2.out.cells; rw [X4.out] at q4; rw [Y4.out] at r4)
    | (go_at_call 58; with_reducible refine (api_Chunks_58.calls k d.A7 d.c7 t.f7 e.A7 e.c7 u.f7 b7 _ (HR.out.below B1.out).r7 HR.out.c7 (HS.out.below B1.out).r7 HS.out.c7 H7.out).mono ?_; rintro ee w3 ⟨rfl, hb⟩; have K1 := Aside0.mk (K1.out.below hb.below); have K2 := Aside0.mk (K2.out.below hb.below); have B1 := Aside0.mk (below_step B1.out hb.below); clear hb; obtain ⟨q0, q1, q2, q3, q4, q5, q6, q7, q8, q9, q10⟩ := K1.out.cells; obtain ⟨r0, r1, r2, r3, r4, r5, r6, r7, r8, r9, r10⟩ := K2.out.cells; rw [X4.out] at q4; rw [Y4.out] at r4)
    | (go_at_call 57; with_reducible refine (slices_Equal_int_int.calls k d.A8 d.c8 t.f8 e.A8 e.c8 u.f8 b8 _ (HR.out.below B1.out).r8 HR.out.c8 (HS.out.below B1.out).r8 HS.out.c8 H8.out).mono ?_; rintro ee w3 ⟨rfl, hb⟩; have K1 := Aside0.mk (K1.out.below hb.below); have K2 := Aside0.mk (K2.out.below hb.below); have B1 := Aside0.mk (below_step B1.out hb.below); clear hb; obtain ⟨q0, q1, q2, q3, q4, q5, q6, q7, q8, q9, q10⟩ := K1.out.cells; obtain ⟨r0, r1, r2, r3, r4, r5, r6, r7, r8, r9, r10⟩ := K2.out.cells; rw [X4.out] at q4; rw [Y4.out] at r4)
    | (go_at_call 56; with_reducible refine (api_Run_56.calls k d.A9 d.c9 t.f9 e.A9 e.c9 u.f9 b9 _ (HR.out.below B1.out).r9 HR.out.c9 (HS.out.below B1.out).r9 HS.out.c9 H9.out).mono ?_; rintro ee w3 ⟨rfl, hb⟩; have K1 := Aside0.mk (K1.out.below hb.below); have K2 := Aside0.mk (K2.out.below hb.below); have B1 := Aside0.mk (below_step B1.out hb.below); clear hb; obtain ⟨q0, q1, q2, q3, q4, q5, q6, q7, q8, q9, q10⟩ := K1.out.cells; obtain ⟨r0, r1, r2, r3, r4, r5, r6, r7, r8, r9, r10⟩ := K2.out.cells; rw [X4.out] at q4; rw [Y4.out] at r4)
    | (go_at_call 59; with_reducible refine (eqf_calls k d.A10 d.c10 t.f10 e.A10 e.c10 u.f10 (HR.out.below B1.out).r10 (HS.out.below B1.out).r10 H10.out).mono ?_; rintro ee w3 ⟨rfl, hb⟩; have K1 := Aside0.mk (K1.out.below hb); have K2 := Aside0.mk (K2.out.below hb); have B1 := Aside0.mk (below_step B1.out hb); clear hb; obtain ⟨q0, q1, q2, q3, q4, q5, q6, q7, q8, q9, q10⟩ := K1.out.cells; obtain ⟨r0, r1, r2, r3, r4, r5, r6, r7, r8, r9, r10⟩ := K2.out.cells; rw [X4.out] at q4; rw [Y4.out] at r4))
  all_goals (go_ret; exact ⟨by rw [← HRS.out]; first | rfl | (simp [*]; done) | (simp_all; done), B1.out⟩)
set_option maxRecDepth 100000 in
set_option maxHeartbeats 4000000 in
theorem eqt_calls {w : World} (k : Nat) (t : S27) (d : D27) (u : S27) (e : D27) (hr : R27 w t d) (hs : R27 w u e) (b1 : Bool) (h1 : dioramaref00_EqRuns.f k t.f1 u.f1 = some b1) (b2 : Bool) (h2 : dioramaref00_EqRuns.f k t.f2 u.f2 = some b2) (b3 : Bool) (h3 : dioramaref00_EqInts.f k t.f3 u.f3 = some b3) (b6 : Bool) (h6 : dioramaref00_EqInts.f k t.f6 u.f6 = some b6) (b7 : Bool) (h7 : dioramaref00_EqChunks.f k t.f7 u.f7 = some b7) (b8 : Bool) (h8 : dioramaref00_EqInts.f k t.f8 u.f8 = some b8) (b9 : Bool) (h9 : dioramaref00_EqRuns.f k t.f9 u.f9 = some b9) (b10 : Bool) (h10 : dioramaref00_EqRows.f k t.f10 u.f10 = some b10) :
    Calls Try.prog 17 #[.agg (cells27 t d), .agg (cells27 u e)] w fun e w' => e = .returned (.bool ((t.f0 == u.f0) && ((t.f4 == u.f4) && ((t.f5 == u.f5) && (b1 && (b2 && (b3 && (b6 && (b7 && (b8 && (b9 && b10))))))))))) ∧ Below w.heap.size w w' := by
  have HR := Aside0.mk hr
  have HS := Aside0.mk hs
  have H1 := Aside0.mk h1
  have H2 := Aside0.mk h2
  have H3 := Aside0.mk h3
  have H6 := Aside0.mk h6
  have H7 := Aside0.mk h7
  have H8 := Aside0.mk h8
  have H9 := Aside0.mk h9
  have H10 := Aside0.mk h10
  clear hr hs h1 h2 h3 h6 h7 h8 h9 h10
  obtain ⟨R, hR⟩ : ∃ R, ((t.f0 == u.f0) && ((t.f4 == u.f4) && ((t.f5 == u.f5) && (b1 && (b2 && (b3 && (b6 && (b7 && (b8 && (b9 && b10)))))))))) = R := ⟨_, rfl⟩
  have HRS := Aside0.mk hR
  rw [hR]
  clear hR
  have hu := Try.underlying27
  unfold cells27
  go_enter Try.func17, Try.ntmps17
  obtain ⟨w1, hw1⟩ : ∃ wz, w.alloc (.cells (cells27 t d) 27) = wz := ⟨_, rfl⟩
  obtain ⟨w2, hw2⟩ : ∃ wz, w1.alloc (.cells (cells27 u e) 27) = wz := ⟨_, rfl⟩
  obtain ⟨g, hg⟩ : ∃ rz, w.heap.size = rz := ⟨_, rfl⟩
  obtain ⟨g2, hg2⟩ : ∃ rz, w1.heap.size = rz := ⟨_, rfl⟩
  have hb1 : Below w.heap.size w w1 := by rw [← hw1]; exact below_alloc (Below.refl _ _) _
  have hb2 : Below w1.heap.size w1 w2 := by rw [← hw2]; exact below_alloc (Below.refl _ _) _
  have B1 : Aside0 (Below w.heap.size w w2) := ⟨below_step hb1 hb2⟩
  have K1 : Aside0 (Box27 w2 g t d) := ⟨Box27.below (by rw [← hw1, ← hg]; exact blk_new w _) hb2⟩
  have K2 : Aside0 (Box27 w2 g2 u e) := ⟨by rw [← hw2, ← hg2]; exact blk_new w1 _⟩
  clear hb1 hb2
  unfold cells27 at hw1 hw2
  go_upto_region 1 with fail
  clear hw1 hw2 hg hg2
  obtain ⟨q0, q1, q2, q3, q4, q5, q6, q7, q8, q9, q10⟩ := K1.out.cells
  obtain ⟨r0, r1, r2, r3, r4, r5, r6, r7, r8, r9, r10⟩ := K2.out.cells
  obtain ⟨x4, hx4⟩ : ∃ z, t.f4 = z := ⟨_, rfl⟩
  obtain ⟨y4, hy4⟩ : ∃ z, u.f4 = z := ⟨_, rfl⟩
  rw [hx4] at q4 HRS
  rw [hy4] at r4 HRS
  obtain ⟨s0, hs0⟩ : ∃ z, (t.f0 == u.f0) = z := ⟨_, rfl⟩
  obtain ⟨s5, hs5⟩ : ∃ z, (t.f5 == u.f5) = z := ⟨_, rfl⟩
  have n0 : (t.f0 != u.f0) = !s0 := by rw [← hs0]; rfl
  have n5 : (t.f5 != u.f5) = !s5 := by rw [← hs5]; rfl
  rw [hs0, hs5] at HRS
  have X4 := Aside0.mk hx4
  have Y4 := Aside0.mk hy4
  clear hx4 hy4
  go_wp2_with (first
    | (go_at_call 20; with_reducible refine (dioramaref00_EqRuns.calls k d.A1 d.c1 t.f1 e.A1 e.c1 u.f1 b1 _ (HR.out.below B1.out).r1 HR.out.c1 (HS.out.below B1.out).r1 HS.out.c1 H1.out).mono ?_; rintro ee w3 ⟨rfl, hb⟩; have K1 := Aside0.mk (K1.out.below hb.below); have K2 := Aside0.mk (K2.out.below hb.below); have B1 := Aside0.mk (below_step B1.out hb.below); clear hb; obtain ⟨q0, q1, q2, q3, q4, q5, q6, q7, q8, q9, q10⟩ := K1.out.cells; obtain ⟨r0, r1, r2, r3, r4, r5, r6, r7, r8, r9, r10⟩ := K2.out.cells; rw [X4.out] at q4; rw [Y4.out] at r4)
    | (go_at_call 20; with_reducible refine (dioramaref00_EqRuns.calls k d.A2 d.c2 t.f2 e.A2 e.c2 u.f2 b2 _ (HR.out.below B1.out).r2 HR.out.c2 (HS.out.below B1.out).r2 HS.out.c2 H2.out).mono ?_; rintro ee w3 ⟨rfl, hb⟩; have K1 := Aside0.mk (K1.out.below hb.below); have K2 := Aside0.mk (K2.out.below hb.below); have B1 := Aside0.mk (below_step B1.out hb.below); clear hb; obtain ⟨q0, q1, q2, q3, q4, q5, q6, q7, q8, q9, q10⟩ := K1.out.cells; obtain ⟨r0, r1, r2, r3, r4, r5, r6, r7, r8, r9, r10⟩ := K2.out.cells; rw [X4.out] at q4; rw [Y4.out] at r4)
    | (go_at_call 23; with_reducible refine (dioramaref00_EqInts.calls k d.A3 d.c3 t.f3 e.A3 e.c3 u.f3 b3 _ (HR.out.below B1.out).r3 HR.out.c3 (HS.out.below B1.out).r3 HS.out.c3 H3.out).mono ?_; rintro ee w3 ⟨rfl, hb⟩; have K1 := Aside0.mk (K1.out.below hb.below); have K2 := Aside0.mk (K2.out.below hb.below); have B1 := Aside0.mk (below_step B1.out hb.below); clear hb; obtain ⟨q0, q1, q2, q3, q4, q5, q6, q7, q8, q9, q10⟩ := K1.out.cells; obtain ⟨r0, r1, r2, r3, r4, r5, r6, r7, r8, r9, r10⟩ := K2.out.cells; rw [X4.out] at q4; rw [Y4.out] at r4)
    | (go_at_call 23; with_reducible refine (dioramaref00_EqInts.calls k d.A6 d.c6 t.f6 e.A6 e.c6 u.f6 b6 _ (HR.out.below B1.out).r6 HR.out.c6 (HS.out.below B1.out).r6 HS.out.c6 H6.out).mono ?_; rintro ee w3 ⟨rfl, hb⟩; have K1 := Aside0.mk (K1.out.below hb.below); have K2 := Aside0.mk (K2.out.below hb.below); have B1 := Aside0.mk (below_step B1.out hb.below); clear hb; obtain ⟨q0, q1, q2, q3, q4, q5, q6, q7, q8, q9, q10⟩ := K1.out.cells; obtain ⟨r0, r1, r2, r3, r4, r5, r6, r7, r8, r9, r10⟩ := K2.out.cells; rw [X4.out] at q4; rw [Y4.out] at r4)
    | (go_at_call 60; with_reducible refine (dioramaref00_EqChunks.calls k d.A7 d.c7 t.f7 e.A7 e.c7 u.f7 b7 _ (HR.out.below B1.out).r7 HR.out.c7 (HS.out.below B1.out).r7 HS.out.c7 H7.out).mono ?_; rintro ee w3 ⟨rfl, hb⟩; have K1 := Aside0.mk (K1.out.below hb.below); have K2 := Aside0.mk (K2.out.below hb.below); have B1 := Aside0.mk (below_step B1.out hb.below); clear hb; obtain ⟨q0, q1, q2, q3, q4, q5, q6, q7, q8, q9, q10⟩ := K1.out.cells; obtain ⟨r0, r1, r2, r3, r4, r5, r6, r7, r8, r9, r10⟩ := K2.out.cells; rw [X4.out] at q4; rw [Y4.out] at r4)
    | (go_at_call 23; with_reducible refine (dioramaref00_EqInts.calls k d.A8 d.c8 t.f8 e.A8 e.c8 u.f8 b8 _ (HR.out.below B1.out).r8 HR.out.c8 (HS.out.below B1.out).r8 HS.out.c8 H8.out).mono ?_; rintro ee w3 ⟨rfl, hb⟩; have K1 := Aside0.mk (K1.out.below hb.below); have K2 := Aside0.mk (K2.out.below hb.below); have B1 := Aside0.mk (below_step B1.out hb.below); clear hb; obtain ⟨q0, q1, q2, q3, q4, q5, q6, q7, q8, q9, q10⟩ := K1.out.cells; obtain ⟨r0, r1, r2, r3, r4, r5, r6, r7, r8, r9, r10⟩ := K2.out.cells; rw [X4.out] at q4; rw [Y4.out] at r4)
    | (go_at_call 20; with_reducible refine (dioramaref00_EqRuns.calls k d.A9 d.c9 t.f9 e.A9 e.c9 u.f9 b9 _ (HR.out.below B1.out).r9 HR.out.c9 (HS.out.below B1.out).r9 HS.out.c9 H9.out).mono ?_; rintro ee w3 ⟨rfl, hb⟩; have K1 := Aside0.mk (K1.out.below hb.below); have K2 := Aside0.mk (K2.out.below hb.below); have B1 := Aside0.mk (below_step B1.out hb.below); clear hb; obtain ⟨q0, q1, q2, q3, q4, q5, q6, q7, q8, q9, q10⟩ := K1.out.cells; obtain ⟨r0, r1, r2, r3, r4, r5, r6, r7, r8, r9, r10⟩ := K2.out.cells; rw [X4.out] at q4; rw [Y4.out] at r4)
    | (go_at_call 61; with_reducible refine (dioramaref00_EqRows.calls k d.A10 d.c10 t.f10 e.A10 e.c10 u.f10 b10 _ (HR.out.below B1.out).r10 HR.out.c10 (HS.out.below B1.out).r10 HS.out.c10 H10.out).mono ?_; rintro ee w3 ⟨rfl, hb⟩; have K1 := Aside0.mk (K1.out.below hb.below); have K2 := Aside0.mk (K2.out.below hb.below); have B1 := Aside0.mk (below_step B1.out hb.below); clear hb; obtain ⟨q0, q1, q2, q3, q4, q5, q6, q7, q8, q9, q10⟩ := K1.out.cells; obtain ⟨r0, r1, r2, r3, r4, r5, r6, r7, r8, r9, r10⟩ := K2.out.cells; rw [X4.out] at q4; rw [Y4.out] at r4))
  all_goals (go_ret; exact ⟨by rw [← HRS.out]; first | rfl | (simp [*]; done) | (simp_all; done), B1.out⟩)
end Go.Proofs.Ytmbhafgnmdfjhaa.QTab
