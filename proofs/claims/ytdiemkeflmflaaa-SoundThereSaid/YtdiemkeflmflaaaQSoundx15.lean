/- Part of a proof: functions of the program as Lean functions, and that the machine's calls come to them. Made by a program of this session (wip/mp). -/
import Derived.Test.YtdiemkeflmflaaaQSoundx0
import Derived.Test.YtdiemkeflmflaaaQSoundx2
import Derived.Test.YtdiemkeflmflaaaQSoundx3
import Derived.Test.YtdiemkeflmflaaaQSoundx4
import Derived.Test.YtdiemkeflmflaaaQSoundx5
import Derived.Test.YtdiemkeflmflaaaQSoundx8
namespace Go.Proofs.Ytdiemkeflmflaaa.QSound
open Go.RowKit Go.Proofs.YtdiemkeflmflaaaV Go.Proofs.YtdiemkeflmflaaaW.PrintWords Go.Proofs.YtdiemkeflmflaaaW.PrintLast Go.Proofs.YtdiemkeflmflaaaW.PrintMore
attribute [local go_sem] max2_int min2_int max_two min_two max_three min_three max_four min_four   -- for this text's walks alone
set_option linter.unusedVariables false
set_option linter.unusedSimpArgs false

/-! ### sound_Restore: function 25 -/
def restI (o : Nat) (wm lf : List Int) : Nat → (Nat → Int) × List Int
  | 0 => (f0, wm)
  | k + 1 => (learnF (rd lf (k : Int)) (bef (restI o wm lf k).2 (restI o wm lf k).2.length) (restI o wm lf k).1 4,
      (restI o wm lf k).2 ++ [wrap64 (predF o (restI o wm lf k).1 (bef (restI o wm lf k).2 (restI o wm lf k).2.length) + rd lf (k : Int))])
def restV (o : Nat) (wm lf : List Int) (k : Nat) : Int := wrap64 (predF o (restI o wm lf k).1 (bef (restI o wm lf k).2 (restI o wm lf k).2.length) + rd lf (k : Int))
def restOk (o : Nat) (wm lf : List Int) : Nat → Bool
  | 0 => true
  | k + 1 => restOk o wm lf k && !out 67108864 (restV o wm lf k)
theorem restI_len (o : Nat) (wm lf : List Int) (k : Nat) : (restI o wm lf k).2.length = wm.length + k := by
  induction k with
  | zero => rfl
  | succ k ih => simp [restI, ih]; omega
theorem restOk_mono {o : Nat} {wm lf : List Int} {k : Nat} (h : restOk o wm lf k = false) : ∀ d, restOk o wm lf (k + d) = false
  | 0 => h
  | d + 1 => by rw [show k + (d + 1) = (k + d) + 1 from rfl, restOk, restOk_mono h d]; rfl
theorem restI_in {o : Nat} {wm lf : List Int} (hw : wm.any (out 67108864) = false) : ∀ k, restOk o wm lf k = true → (restI o wm lf k).2.any (out 67108864) = false
  | 0, _ => hw
  | k + 1, h => by
    rw [restOk, Bool.and_eq_true] at h
    rw [restI, List.any_append, restI_in hw k h.1]
    have h2 : (!out 67108864 (restV o wm lf k)) = true := h.2
    unfold restV at h2
    simp at h2
    simp [h2]
def restR (o : Nat) (wm lf : List Int) : List Int × Int := if restOk o wm lf lf.length = true then ((restI o wm lf lf.length).2, 0) else ([], 1)
theorem predictO_in {l : List Int} (h : l.any (out 67108864) = false) : ∀ x ∈ l, -67108864 ≤ x ∧ x ≤ 67108864 := all_in h
set_option maxRecDepth 100000 in
set_option maxHeartbeats 2000000 in
theorem restore_ok {w : World} (o : Nat) (ho : o ≤ 5) (A0 : Option Addr) (c0 : Nat) (l0 : List Int) (hr0 : Kd.C (Kd.int .i64) w A0 l0.length l0) (hc0 : l0.length ≤ c0) (A1 : Option Addr) (c1 : Nat) (l1 : List Int) (hr1 : Kd.C (Kd.int .i64) w A1 l1.length l1) (hc1 : l1.length ≤ c1)
    (hb : l0.any (out 67108864) = false) (hb1 : l1.any (out 2147483648) = false) (hn : l0.length = warmN o (l0.length + l1.length)) (hl : l0.length + l1.length ≤ 16384) :
    Calls Try.prog 25 #[.slice A0 l0.length c0, .slice A1 l1.length c1, .int .i64 (o : Int)] w fun e w' => ∃ v0, e = .returned (.tuple #[v0, .int .i64 (restR o l0 l1).2]) ∧ Kd.R (Kd.int .i64) 3 w' w.heap.size (fun _ => True) v0 (restR o l0 l1).1 ∧ Below w.heap.size w w' := by
  have info3 : (Try.prog.info? 3).map (fun i => (i.zero, i.size, i.bytes)) = some (some (.int .i64 0), 1, 8) := by kernel_rfl
  obtain ⟨r0, r1, hF⟩ : ∃ r0 r1, restR o l0 l1 = (r0, r1) := ⟨_, _, rfl⟩
  rw [hF]
  have HF := Aside0.mk hF
  have HR := Aside0.mk hr0
  have HC := Aside0.mk hc0
  have HR1 := Aside0.mk hr1
  have HC1 := Aside0.mk hc1
  have HL := Aside0.mk hl
  have HO := Aside0.mk ho
  have HB := Aside0.mk hb
  have HBL := Aside0.mk hb1
  have HI0 : Aside0 ((decide ((0 : Int) ≤ (o : Int)) && decide ((o : Int) ≤ 5)) = true) := ⟨by simp; omega⟩
  have ea : wrap64 ((l0.length : Int) + (l1.length : Int)) = (l0.length : Int) + (l1.length : Int) := by unfold wrap64; omega
  have HWF : Aside0 (sound_predictor_warm.f (o : Int) 1024 0 0 0 ((l0.length : Int) + (l1.length : Int)) = some ((l0.length : Int), (o : Int), 1024, 0, 0, 0)) := ⟨by
    unfold sound_predictor_warm.f
    unfold warmN at hn
    by_cases h : o = 5
    · rw [if_pos (by omega)]
      rw [if_pos h] at hn
      rw [hn]; rfl
    · rw [if_neg (by omega)]
      rw [if_neg h] at hn
      congr 2
      unfold mn
      split <;> omega⟩
  have h16' : decide (16384 < l0.length + l1.length) = false := decide_eq_false (by omega)
  have h16'' : decide (16384 < (l0.length : Int) + (l1.length : Int)) = false := decide_eq_false (by omega)
  have HCL : Aside0 (slices_Clone_int_int.f l0 = some l0) := ⟨by unfold slices_Clone_int_int.f; rw [if_pos (by omega)]⟩
  clear hr0 hc0 hr1 hc1 hl ho hb hb1 hn hF
  go_enter Try.func25, Try.ntmps25
  go_wp2_with fail
  refine (sound_within.calls (o : Int) 0 5 true _ (by rw [within_f, HI0.out])).mono ?_
  rintro e w1 ⟨rfl, ⟨n1, rfl⟩⟩
  go_wp2_with fail
  refine (beyond_calls (w := w.drewN n1) (most := 67108864) (by omega) (by omega) A0 c0 l0 (Kd.C_drewN HR.out n1)).mono ?_
  rintro e w2 ⟨rfl, hbel⟩
  rw [HB.out]
  have B2 : Aside0 (Below w.heap.size w w2) := ⟨below_step (pw_below_drewN (Below.refl _ _) n1) hbel⟩
  clear hbel
  go_wp2_with fail
  refine (beyond_calls (w := w2) (most := 2147483648) (by omega) (by omega) A1 c1 l1 (Kd.C_below HR1.out B2.out)).mono ?_
  rintro e w3 ⟨rfl, hbel⟩
  rw [HBL.out]
  have B3 : Aside0 (Below w.heap.size w w3) := ⟨below_step B2.out hbel⟩
  clear hbel
  go_wp2_with fail
  refine (sound_newPredictor.calls (o : Int) (o : Int) 1024 0 0 0 w w3 B3.out rfl).mono ?_
  rintro e w4 ⟨g, rfl, hs, hb4, -⟩
  have S4 := Aside0.mk hs
  have B4 := Aside0.mk hb4
  clear hs hb4
  go_wp2_with fail
  refine (sound_predictor_warm.calls g (o : Int) 1024 0 0 0 _ (l0.length : Int) (o : Int) 1024 0 0 0 w w4 S4.out B4.out HWF.out).mono ?_
  rintro e w5 ⟨rfl, hs, hb5, -⟩
  have P5 : Aside0 (IsP w5 g (o : Int) f0) := ⟨IsP.of hs⟩
  have G5 : Aside0 (w.heap.size ≤ g) := ⟨hs.2⟩
  have B5 := Aside0.mk hb5
  clear hs hb5 S4 B4
  go_wp2_with fail
  refine (slices_Clone_int_int.calls A0 c0 l0 l0 w5 (Kd.C_below HR.out B5.out) HC.out HCL.out).mono ?_
  rintro e w6 ⟨v0, rfl, hr6, hb6⟩
  have R6 : Aside0 (w6.ownsRow w.heap.size 3 1 v0 l0.length (nums .i64 l0)) := ⟨by simpa [encs, nums] using Kd.own_of_R (Kd.R_lower hr6 B5.out.size)⟩
  have P6 : Aside0 (IsP w6 g (o : Int) f0) := ⟨⟨blk_below P5.out.hg hb6⟩⟩
  have B6 := Aside0.mk (below_step B5.out hb6)
  clear hr6 hb6 ea h16' h16''
  go_wp2_with fail
  go_loopg [10, 44] (l1.length + 1) (fun kq v10 v44 w' => ∃ (k : Nat), v44 = .int .i64 (k : Int) ∧ Aside0 (kq = l1.length - k + 1) ∧ Aside0 (k ≤ l1.length) ∧ Aside0 (restOk o l0 l1 k = true) ∧ Aside0 (IsP w' g (o : Int) (restI o l0 l1 k).1) ∧ Aside0 (w'.ownsRow w.heap.size 3 1 v10 (restI o l0 l1 k).2.length (nums .i64 (restI o l0 l1 k).2)) ∧ Aside0 (Below w.heap.size w w'))
  case atStart => exact ⟨0, rfl, ⟨rfl⟩, ⟨Nat.zero_le _⟩, ⟨rfl⟩, ⟨P6.out⟩, ⟨R6.out⟩, B6⟩
  case round =>
    obtain ⟨k, rfl, HQ, HK, HOK, HP, HO5, HBW⟩ := hrel
    by_cases hk : k = l1.length
    · have hx1 : decide ((k : Int) < (l1.length : Int)) = false := decide_eq_false (by omega)
      have hx2 : decide (k < l1.length) = false := decide_eq_false (by omega)
      have hF : ((restI o l0 l1 k).2, (0 : Int)) = (r0, r1) := by
        have h1 := HOK.out
        rw [← HF.out, restR, ← hk, if_pos h1]
      obtain ⟨s, hs⟩ : ∃ s, (restI o l0 l1 k).2 = s := ⟨_, rfl⟩
      rw [hs] at hF HO5
      clear hs
      cases hF
      clear hk
      go_wp2_with fail
      go_ret2
      exact ⟨_, rfl, Kd.R_of_own (h1 := fun _ => rfl) (by simpa [encs, nums] using HO5.out) (fun _ _ => trivial), HBW.out⟩
    · have hk' : k < l1.length := by have := HK.out; omega
      have hx1 : decide ((k : Int) < (l1.length : Int)) = true := decide_eq_true (by omega)
      have hx2 : decide (k < l1.length) = true := decide_eq_true hk'
      have hx3 : ((k : Int) < (l1.length : Int)) = True := eq_true (by omega)
      have hx4 : (k < l1.length) = True := eq_true hk'
      have HKL := Aside0.mk hk'
      obtain ⟨ad, e0, x0⟩ := Kd.at_int (Kd.C_below HR1.out HBW.out) (k : Int) (by omega) (by omega)
      cases e0
      rw [Int.toNat_natCast] at x0
      have e8 : wrap64 ((k : Int) + 1) = ((k + 1 : Nat) : Int) := by have := HL.out; unfold wrap64; omega
      have HSL := Aside0.mk (restI_len o l0 l1 k)
      have HSI := Aside0.mk (restI_in (o := o) (lf := l1) HB.out k HOK.out)
      obtain ⟨s, hs⟩ : ∃ s, (restI o l0 l1 k).2 = s := ⟨_, rfl⟩
      have HS := Aside0.mk hs
      rw [hs] at HO5 HSL HSI
      have HLS : Aside0 (s.length ≤ 4611686018427387904) := ⟨by have := HSL.out; have := HL.out; omega⟩
      obtain ⟨fw, hfw⟩ : ∃ fw, (restI o l0 l1 k).1 = fw := ⟨_, rfl⟩
      have HFW := Aside0.mk hfw
      rw [hfw] at HP
      have N5 := own_ne HO5.out HP.out.hg (by decide)
      have HNE := Aside0.mk N5
      have hRR := Kd.R_of_own (ok := fun _ => True) (enc := Value.int .i64) (h1 := fun _ => rfl) (xs := s) (by simpa [encs, nums] using HO5.out) (fun _ _ => trivial)
      obtain ⟨As, cs, rfl⟩ := Kd.R_slice hRR
      have HRC := Aside0.mk (Kd.R_reads' hRR)
      obtain ⟨pv, hpv⟩ : ∃ pv, predF o fw (bef s s.length) = pv := ⟨_, rfl⟩
      have HPV := Aside0.mk hpv
      have HV : Aside0 (restV o l0 l1 k = wrap64 (pv + rd l1 (k : Int))) := ⟨by rw [restV, HS.out, HFW.out, HPV.out]⟩
      clear hk hk' hs hfw N5 hRR hpv
      go_wp2_with fail
      refine (predict_calls (w := wr) HO.out HP.out As cs s HRC.out.2.2 HRC.out.2.1 HLS.out (all_in HSI.out)).mono ?_
      rintro e w7 ⟨rfl, ⟨n7, rfl⟩⟩
      rw [HPV.out]
      obtain ⟨v, hv⟩ : ∃ v, wrap64 (pv + rd l1 (k : Int)) = v := ⟨_, rfl⟩
      have hV := HV.out
      rw [hv] at hV
      have HV2 := Aside0.mk hV
      clear hV HV
      go_wp2_with fail
      refine (sound_within.calls v (-67108864) 67108864 (!out 67108864 v) _ (by rw [within_f]; simp [out])).mono ?_
      rintro e w8 ⟨rfl, ⟨n8, rfl⟩⟩
      cases ho : out 67108864 v with
      | true =>
        have HF2 : (([] : List Int), (1 : Int)) = (r0, r1) := by
          have h1 : restOk o l0 l1 (k + 1) = false := by rw [restOk, HV2.out, ho]; simp
          have h2 := restOk_mono h1 (l1.length - (k + 1))
          rw [show k + 1 + (l1.length - (k + 1)) = l1.length by have := HKL.out; omega] at h2
          rw [← HF.out, restR, h2]; rfl
        cases HF2
        go_wp2_with fail
        go_ret2
        exact ⟨_, rfl, Kd.R_nil _ _ _ _ _, pw_below_drewN HBW.out _⟩
      | false =>
        have HOUT := Aside0.mk ho
        have HRL : Aside0 (∀ w', Moved (wr.drewN (n7 + n8)) w' (fun k => k = g) (fun k => k = g) → Kd.C (Kd.int .i64) w' As s.length s) := ⟨fun w' hm => by
          have h := own_moved (pw_own_drewN HO5.out (n7 + n8)) HNE.out hm
          have hR : Kd.R (Kd.int .i64) 3 w' w.heap.size (fun _ => True) (.slice As s.length cs) s := Kd.R_of_own (h1 := fun _ => rfl) (by simpa [encs, nums] using h) (fun _ _ => trivial)
          exact (Kd.R_reads' hR).2.2⟩
        go_wp2_with fail
        refine (learn_calls (w := wr.drewN (n7 + n8)) (HP.out.same rfl) As cs s HRL.out HRC.out.2.1 HLS.out (rd l1 (k : Int))).mono ?_
        rintro e w9 ⟨rfl, hp, hm⟩
        have O9 := Aside0.mk (own_moved (pw_own_drewN HO5.out (n7 + n8)) HNE.out hm)
        have B9 : Aside0 (Below w.heap.size w w9) := ⟨(pw_below_drewN HBW.out _).trans (hm.below (base := w.heap.size) (fun k hk => by have := G5.out; omega) HBW.out.size)⟩
        have P9 := Aside0.mk hp
        clear hp hm
        go_wp2_with (at_builtin; refine print_append_num (w0 := w) w.heap.size rfl (.tmp 60) (.tmp 62) 22 3 .i64 8 rfl Try.underlying22 info3 (by decide) _ s v rfl rfl O9.out B9.out B9.out.size (by have h1 := HSL.out; have h2 := HL.out; have h3 := HKL.out; omega) ?_; intro v1 w10 hown hB hG hat; have S1 := Aside0.mk hown; have S2 := Aside0.mk hB; have S3 := Aside0.mk (blk_grown P9.out.hg hG HNE.out); clear hown hB hG hat)
        go_roundg (l1.length - (k + 1) + 1)
        case measure => have := HQ.out; have := HKL.out; omega
        case rel =>
          have e4 : restI o l0 l1 (k + 1) = (learnF (rd l1 (k : Int)) (bef s s.length) fw 4, s ++ [v]) := by
            have h1 := HV2.out
            unfold restV at h1
            rw [restI, HFW.out, HS.out] 
            rw [HFW.out, HS.out] at h1
            rw [h1]
          refine ⟨k + 1, by rw [e8], ⟨rfl⟩, ⟨by have := HKL.out; omega⟩, ⟨by rw [restOk, HOK.out, HV2.out, HOUT.out]; rfl⟩, ⟨by rw [e4]; exact ⟨S3.out⟩⟩, ⟨by rw [e4]; exact S1.out⟩, ⟨S2.out⟩⟩
def restF (wm lf : List Int) (o : Int) : List Int × Int :=
  if o < 0 ∨ 5 < o ∨ wm.any (out 67108864) = true ∨ lf.any (out 2147483648) = true then ([], 1)
  else if wm.length ≠ warmN o.toNat (wm.length + lf.length) then ([], 4)
  else if 16384 < wm.length + lf.length then ([], 2) else restR o.toNat wm lf
set_option maxRecDepth 100000 in
set_option maxHeartbeats 2000000 in
theorem restore_calls {w : World} (o : Int) (A0 : Option Addr) (c0 : Nat) (l0 : List Int) (hr0 : Kd.C (Kd.int .i64) w A0 l0.length l0) (hc0 : l0.length ≤ c0) (A1 : Option Addr) (c1 : Nat) (l1 : List Int) (hr1 : Kd.C (Kd.int .i64) w A1 l1.length l1) (hc1 : l1.length ≤ c1) (hs : l0.length + l1.length ≤ 4611686018427387904) :
    Calls Try.prog 25 #[.slice A0 l0.length c0, .slice A1 l1.length c1, .int .i64 o] w fun e w' => ∃ v0, e = .returned (.tuple #[v0, .int .i64 (restF l0 l1 o).2]) ∧ Kd.R (Kd.int .i64) 3 w' w.heap.size (fun _ => True) v0 (restF l0 l1 o).1 ∧ Below w.heap.size w w' := by
  obtain ⟨r0, r1, hF⟩ : ∃ r0 r1, restF l0 l1 o = (r0, r1) := ⟨_, _, rfl⟩
  have HF := Aside0.mk hF
  have HR := Aside0.mk hr0
  have HR1 := Aside0.mk hr1
  by_cases ho : 0 ≤ o ∧ o ≤ 5
  · have HI0 : Aside0 ((decide ((0 : Int) ≤ o) && decide (o ≤ 5)) = true) := ⟨by simp; omega⟩
    by_cases hb : l0.any (out 67108864) = true
    · rw [hF]
      have HB := Aside0.mk hb
      have hF2 : (([] : List Int), (1 : Int)) = (r0, r1) := by rw [← HF.out, restF, if_pos (.inr (.inr (.inl hb)))]
      clear hb ho hr0 hc0 hr1 hc1 hF hs
      cases hF2
      go_enter Try.func25, Try.ntmps25
      go_wp2_with fail
      refine (sound_within.calls o 0 5 true _ (by rw [within_f, HI0.out])).mono ?_
      rintro e w1 ⟨rfl, ⟨n1, rfl⟩⟩
      go_wp2_with fail
      refine (beyond_calls (w := w.drewN n1) (most := 67108864) (by omega) (by omega) A0 c0 l0 (Kd.C_drewN HR.out n1)).mono ?_
      rintro e w2 ⟨rfl, hbel⟩
      rw [HB.out]
      have B2 : Aside0 (Below w.heap.size w w2) := ⟨below_step (pw_below_drewN (Below.refl _ _) n1) hbel⟩
      clear hbel
      go_wp2_with fail
      go_ret2
      exact ⟨_, rfl, Kd.R_nil _ _ _ _ _, B2.out⟩
    · have HB : Aside0 (l0.any (out 67108864) = false) := ⟨by simpa using hb⟩
      by_cases hb1 : l1.any (out 2147483648) = true
      · rw [hF]
        have HB1 := Aside0.mk hb1
        have hF2 : (([] : List Int), (1 : Int)) = (r0, r1) := by rw [← HF.out, restF, if_pos (.inr (.inr (.inr hb1)))]
        clear hb hb1 ho hr0 hc0 hr1 hc1 hF hs
        cases hF2
        go_enter Try.func25, Try.ntmps25
        go_wp2_with fail
        refine (sound_within.calls o 0 5 true _ (by rw [within_f, HI0.out])).mono ?_
        rintro e w1 ⟨rfl, ⟨n1, rfl⟩⟩
        go_wp2_with fail
        refine (beyond_calls (w := w.drewN n1) (most := 67108864) (by omega) (by omega) A0 c0 l0 (Kd.C_drewN HR.out n1)).mono ?_
        rintro e w2 ⟨rfl, hbel⟩
        rw [HB.out]
        have B2 : Aside0 (Below w.heap.size w w2) := ⟨below_step (pw_below_drewN (Below.refl _ _) n1) hbel⟩
        clear hbel
        go_wp2_with fail
        refine (beyond_calls (w := w2) (most := 2147483648) (by omega) (by omega) A1 c1 l1 (Kd.C_below HR1.out B2.out)).mono ?_
        rintro e w3 ⟨rfl, hbel⟩
        rw [HB1.out]
        have B3 : Aside0 (Below w.heap.size w w3) := ⟨below_step B2.out hbel⟩
        clear hbel
        go_wp2_with fail
        go_ret2
        exact ⟨_, rfl, Kd.R_nil _ _ _ _ _, B3.out⟩
      · have HB1 : Aside0 (l1.any (out 2147483648) = false) := ⟨by simpa using hb1⟩
        have hno : ¬ (o < 0 ∨ 5 < o ∨ l0.any (out 67108864) = true ∨ l1.any (out 2147483648) = true) := by
          rintro (h | h | h | h)
          · omega
          · omega
          · exact hb h
          · exact hb1 h
        have HNO := Aside0.mk hno
        by_cases hw : l0.length = warmN o.toNat (l0.length + l1.length) ∧ l0.length + l1.length ≤ 16384
        · have h := restore_ok (w := w) o.toNat (by omega) A0 c0 l0 hr0 hc0 A1 c1 l1 hr1 hc1 HB.out HB1.out hw.1 hw.2
          rw [Int.toNat_of_nonneg ho.1] at h
          rw [show restF l0 l1 o = restR o.toNat l0 l1 by rw [restF, if_neg hno, if_neg (by omega), if_neg (by omega)]]
          exact h
        · have ea : wrap64 ((l0.length : Int) + (l1.length : Int)) = (l0.length : Int) + (l1.length : Int) := by unfold wrap64; omega
          obtain ⟨wn, hwn⟩ : ∃ wn, warmN o.toNat (l0.length + l1.length) = wn := ⟨_, rfl⟩
          have HWN := Aside0.mk hwn
          have HWF : Aside0 (sound_predictor_warm.f o 1024 0 0 0 ((l0.length : Int) + (l1.length : Int)) = some ((wn : Int), o, 1024, 0, 0, 0)) := ⟨by
            unfold sound_predictor_warm.f
            unfold warmN at hwn
            by_cases h : o = 5
            · rw [if_pos h]
              rw [if_pos (by omega)] at hwn
              rw [← hwn]; rfl
            · rw [if_neg h]
              rw [if_neg (by omega)] at hwn
              congr 2
              unfold mn
              split <;> omega⟩
          rw [hF]
          by_cases hw1 : l0.length = wn
          · have hF2 : (([] : List Int), (2 : Int)) = (r0, r1) := by rw [← HF.out, restF, if_neg hno, if_neg (by omega), if_pos (by omega)]
            have h1 : ((l0.length : Int) != (wn : Int)) = false := by simp; omega
            have h1a : ((l0.length : Int) == (wn : Int)) = true := by simp; omega
            have h1b : (l0.length != wn) = false := by simp; omega
            have h1c : (l0.length == wn) = true := by simp; omega
            have h16' : decide (16384 < l0.length + l1.length) = true := decide_eq_true (by omega)
            have h16'' : decide (16384 < (l0.length : Int) + (l1.length : Int)) = true := decide_eq_true (by omega)
            clear hb hb1 ho hr0 hc0 hr1 hc1 hF hs hw hwn hno hw1
            cases hF2
            go_enter Try.func25, Try.ntmps25
            go_wp2_with fail
            refine (sound_within.calls o 0 5 true _ (by rw [within_f, HI0.out])).mono ?_
            rintro e w1 ⟨rfl, ⟨n1, rfl⟩⟩
            go_wp2_with fail
            refine (beyond_calls (w := w.drewN n1) (most := 67108864) (by omega) (by omega) A0 c0 l0 (Kd.C_drewN HR.out n1)).mono ?_
            rintro e w2 ⟨rfl, hbel⟩
            rw [HB.out]
            have B2 : Aside0 (Below w.heap.size w w2) := ⟨below_step (pw_below_drewN (Below.refl _ _) n1) hbel⟩
            clear hbel
            go_wp2_with fail
            refine (beyond_calls (w := w2) (most := 2147483648) (by omega) (by omega) A1 c1 l1 (Kd.C_below HR1.out B2.out)).mono ?_
            rintro e w3 ⟨rfl, hbel⟩
            rw [HB1.out]
            have B3 : Aside0 (Below w.heap.size w w3) := ⟨below_step B2.out hbel⟩
            clear hbel
            go_wp2_with fail
            refine (sound_newPredictor.calls o o 1024 0 0 0 w w3 B3.out rfl).mono ?_
            rintro e w4 ⟨g, rfl, hs, hb4, -⟩
            have S4 := Aside0.mk hs
            have B4 := Aside0.mk hb4
            clear hs hb4
            go_wp2_with fail
            refine (sound_predictor_warm.calls g o 1024 0 0 0 _ (wn : Int) o 1024 0 0 0 w w4 S4.out B4.out HWF.out).mono ?_
            rintro e w5 ⟨rfl, -, hb5, -⟩
            have B5 := Aside0.mk hb5
            clear hb5
            go_wp2_with fail
            go_ret2
            exact ⟨_, rfl, Kd.R_nil _ _ _ _ _, B5.out⟩
          · have hF2 : (([] : List Int), (4 : Int)) = (r0, r1) := by rw [← HF.out, restF, if_neg hno, if_pos (by omega)]
            have h1 : ((l0.length : Int) != (wn : Int)) = true := by simp; omega
            have h1a : ((l0.length : Int) == (wn : Int)) = false := by simp; omega
            have h1b : (l0.length != wn) = true := by simp; omega
            have h1c : (l0.length == wn) = false := by simp; omega
            clear hb hb1 ho hr0 hc0 hr1 hc1 hF hs hw hwn hno hw1
            cases hF2
            go_enter Try.func25, Try.ntmps25
            go_wp2_with fail
            refine (sound_within.calls o 0 5 true _ (by rw [within_f, HI0.out])).mono ?_
            rintro e w1 ⟨rfl, ⟨n1, rfl⟩⟩
            go_wp2_with fail
            refine (beyond_calls (w := w.drewN n1) (most := 67108864) (by omega) (by omega) A0 c0 l0 (Kd.C_drewN HR.out n1)).mono ?_
            rintro e w2 ⟨rfl, hbel⟩
            rw [HB.out]
            have B2 : Aside0 (Below w.heap.size w w2) := ⟨below_step (pw_below_drewN (Below.refl _ _) n1) hbel⟩
            clear hbel
            go_wp2_with fail
            refine (beyond_calls (w := w2) (most := 2147483648) (by omega) (by omega) A1 c1 l1 (Kd.C_below HR1.out B2.out)).mono ?_
            rintro e w3 ⟨rfl, hbel⟩
            rw [HB1.out]
            have B3 : Aside0 (Below w.heap.size w w3) := ⟨below_step B2.out hbel⟩
            clear hbel
            go_wp2_with fail
            refine (sound_newPredictor.calls o o 1024 0 0 0 w w3 B3.out rfl).mono ?_
            rintro e w4 ⟨g, rfl, hs, hb4, -⟩
            have S4 := Aside0.mk hs
            have B4 := Aside0.mk hb4
            clear hs hb4
            go_wp2_with fail
            refine (sound_predictor_warm.calls g o 1024 0 0 0 _ (wn : Int) o 1024 0 0 0 w w4 S4.out B4.out HWF.out).mono ?_
            rintro e w5 ⟨rfl, -, hb5, -⟩
            have B5 := Aside0.mk hb5
            clear hb5
            go_wp2_with fail
            go_ret2
            exact ⟨_, rfl, Kd.R_nil _ _ _ _ _, B5.out⟩
  · rw [hF]
    have hF2 : (([] : List Int), (1 : Int)) = (r0, r1) := by rw [← HF.out, restF, if_pos (by omega)]
    have HI0 : Aside0 ((decide ((0 : Int) ≤ o) && decide (o ≤ 5)) = false) := ⟨by simp; omega⟩
    clear ho hr0 hc0 hr1 hc1 hF hs
    cases hF2
    go_enter Try.func25, Try.ntmps25
    go_wp2_with fail
    refine (sound_within.calls o 0 5 false _ (by rw [within_f, HI0.out])).mono ?_
    rintro e w1 ⟨rfl, ⟨n1, rfl⟩⟩
    go_wp2_with fail
    go_ret2
    exact ⟨_, rfl, Kd.R_nil _ _ _ _ _, pw_below_drewN (Below.refl _ _) n1⟩
def sound_Restore.f (l0 : List Int) (l1 : List Int) (a2 : Int) : Option (List Int × Int) := if l0.length + l1.length ≤ 4611686018427387904 then some (restF l0 l1 a2) else none
theorem sound_Restore.calls (A0 : Option Addr) (c0 : Nat) (l0 : List Int) (A1 : Option Addr) (c1 : Nat) (l1 : List Int) (a2 : Int) (r1 : List Int) (r2 : Int) (w : World) (hr0 : Kd.C (Kd.int .i64) w A0 l0.length l0) (hc0 : l0.length ≤ c0) (hr1 : Kd.C (Kd.int .i64) w A1 l1.length l1) (hc1 : l1.length ≤ c1) (h : sound_Restore.f l0 l1 a2 = some (r1, r2)) :
    Calls Try.prog 25 #[.slice A0 l0.length c0, .slice A1 l1.length c1, .int .i64 a2] w fun e w' => ∃ v0_ : Value, e = .returned (.tuple #[v0_, .int .i64 r2]) ∧ Kd.R (Kd.int .i64) 3 w' w.heap.size (fun _ => True) v0_ r1 ∧ Below w.heap.size w w' := by
  unfold sound_Restore.f at h
  by_cases hs : l0.length + l1.length ≤ 4611686018427387904
  · rw [if_pos hs] at h
    have e := Option.some.inj h
    have hh := restore_calls (w := w) a2 A0 c0 l0 hr0 hc0 A1 c1 l1 hr1 hc1 hs
    rw [e] at hh
    exact hh
  · rw [if_neg hs] at h; cases h

end Go.Proofs.Ytdiemkeflmflaaa.QSound
