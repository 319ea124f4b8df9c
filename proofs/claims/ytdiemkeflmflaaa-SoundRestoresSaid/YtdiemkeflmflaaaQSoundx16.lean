/- Part of a proof: functions of the program as Lean functions, and that the machine's calls come to them. Made by a program of this session (wip/mp). -/
import Derived.Test.YtdiemkeflmflaaaQSoundx0
import Derived.Test.YtdiemkeflmflaaaQSoundx2
import Derived.Test.YtdiemkeflmflaaaQSoundx5
import Derived.Test.YtdiemkeflmflaaaQSoundx6
import Derived.Test.YtdiemkeflmflaaaQSoundx8
import Derived.Test.YtdiemkeflmflaaaQSoundx9
import Derived.Test.YtdiemkeflmflaaaQSoundx15
namespace Go.Proofs.Ytdiemkeflmflaaa.QSound
open Go.RowKit Go.Proofs.YtdiemkeflmflaaaV Go.Proofs.YtdiemkeflmflaaaW.PrintWords Go.Proofs.YtdiemkeflmflaaaW.PrintLast Go.Proofs.YtdiemkeflmflaaaW.PrintMore
attribute [local go_sem] max2_int min2_int max_two min_two max_three min_three max_four min_four   -- for this text's walks alone
set_option linter.unusedVariables false
set_option linter.unusedSimpArgs false

/-! ### dioramaref16_Restore: function 26 -/
set_option maxRecDepth 100000 in
set_option maxHeartbeats 4000000 in
theorem rrestore_calls {w : World} (o : Int) (A0 : Option Addr) (c0 : Nat) (l0 : List Int) (hr0 : Kd.C (Kd.int .i64) w A0 l0.length l0) (hc0 : l0.length ≤ c0) (A1 : Option Addr) (c1 : Nat) (l1 : List Int) (hr1 : Kd.C (Kd.int .i64) w A1 l1.length l1) (hc1 : l1.length ≤ c1) (hs : l0.length + l1.length ≤ 4611686018427387904) :
    Calls Try.prog 26 #[.slice A0 l0.length c0, .slice A1 l1.length c1, .int .i64 o] w fun e w' => ∃ v0, e = .returned (.tuple #[v0, .int .i64 (restF l0 l1 o).2]) ∧ Kd.R (Kd.int .i64) 3 w' w.heap.size (fun _ => True) v0 (restF l0 l1 o).1 ∧ Below w.heap.size w w' := by
  have info3 : (Try.prog.info? 3).map (fun i => (i.zero, i.size, i.bytes)) = some (some (.int .i64 0), 1, 8) := by kernel_rfl
  obtain ⟨r0, r1, hF⟩ : ∃ r0 r1, restF l0 l1 o = (r0, r1) := ⟨_, _, rfl⟩
  rw [hF]
  have HF := Aside0.mk hF
  have HR := Aside0.mk hr0
  have HR1 := Aside0.mk hr1
  have HC := Aside0.mk hc0
  have HC1 := Aside0.mk hc1
  have HL := Aside0.mk hs
  clear hF hr0 hr1 hc0 hc1 hs
  by_cases ho : 0 ≤ o ∧ o ≤ 5
  · have HO := Aside0.mk ho
    have HI0 : Aside0 ((decide ((0 : Int) ≤ o) && decide (o ≤ 5)) = true) := ⟨by simp; omega⟩
    clear ho
    go_enter Try.func26, Try.ntmps26
    go_wp2_with fail
    refine (dioramaref16_in.calls o 0 5 true _ (by rw [rin_f, HI0.out])).mono ?_
    rintro e w1 ⟨rfl, ⟨n1, rfl⟩⟩
    go_wp2_with fail
    go_loopg [8] (l0.length + 1) (fun kq v7 w' => ∃ (i n : Nat), v7 = .int .i64 (i : Int) ∧ Aside0 (kq = l0.length - i + 1) ∧ Aside0 (i ≤ l0.length ∧ (l0.take i).any (out 67108864) = false) ∧ Aside0 (w' = w.drewN n))
    case atStart => exact ⟨0, n1, rfl, ⟨rfl⟩, ⟨⟨Nat.zero_le _, rfl⟩⟩, ⟨rfl⟩⟩
    case round =>
      obtain ⟨i, n, rfl, HQ, HI, HW⟩ := hrel
      have hw := HW.out
      subst hw
      clear HW
      by_cases hi : i < l0.length
      · have e8 : wrap64 ((i : Int) + 1) = ((i + 1 : Nat) : Int) := by have := HL.out; unfold wrap64; omega
        obtain ⟨ad, e0, x0⟩ := Kd.at_int (Kd.C_drewN HR.out n) (i : Int) (by omega) (by omega)
        cases e0
        rw [Int.toNat_natCast] at x0
        have hi1 : decide ((i : Int) < (l0.length : Int)) = true := decide_eq_true (by omega)
        have hi2 : decide (i < l0.length) = true := decide_eq_true hi
        have hx3 : ((i : Int) < (l0.length : Int)) = True := eq_true (by omega)
        have hx4 : (i < l0.length) = True := eq_true hi
        have HI1 := Aside0.mk hi
        have HTK : Aside0 ((l0.take (i + 1)).any (out 67108864) = out 67108864 (rd l0 (i : Int))) := ⟨any_take hi (by simp [rd, List.getD_eq_getElem?_getD, List.getElem?_eq_getElem hi]) HI.out.2⟩
        clear hi
        go_wp2_with fail
        refine (dioramaref16_in.calls (rd l0 (i : Int)) (-67108864) 67108864 (!out 67108864 (rd l0 (i : Int))) _ (by rw [rin_f]; simp [out])).mono ?_
        rintro e w2 ⟨rfl, ⟨n2, rfl⟩⟩
        cases hb : out 67108864 (rd l0 (i : Int)) with
        | true =>
          have HB : Aside0 (l0.any (out 67108864) = true) := ⟨List.any_eq_true.mpr ⟨rd l0 (i : Int), by have h9 := HI1.out; simp [rd, List.getD_eq_getElem?_getD, List.getElem?_eq_getElem h9], hb⟩⟩
          have hF : (([] : List Int), (1 : Int)) = (r0, r1) := Eq.trans (by unfold restF; rw [if_pos (.inr (.inr (.inl HB.out)))]) HF.out
          cases hF
          go_wp2_with fail
          go_ret2
          exact ⟨_, rfl, Kd.R_nil _ _ _ _ _, pw_below_drewN (Below.refl _ _) (n + n2)⟩
        | false =>
          go_wp2_with fail
          go_roundg (l0.length - (i + 1) + 1)
          case measure => have := HQ.out; have := HI1.out; omega
          case rel => exact ⟨i + 1, n + n2, by rw [e8], ⟨rfl⟩, ⟨⟨HI1.out, by rw [HTK.out, hb]⟩⟩, ⟨rfl⟩⟩
      · have hi1 : decide ((i : Int) < (l0.length : Int)) = false := decide_eq_false (by omega)
        have hi2 : decide (i < l0.length) = false := decide_eq_false hi
        have hz : l0.any (out 67108864) = false := by have h9 := HI.out.2; rwa [List.take_of_length_le (by omega)] at h9
        have HZ := Aside0.mk hz
        clear hi hz
        obtain ⟨wm, hwm⟩ : ∃ wm, w.drewN n = wm := ⟨_, rfl⟩
        go_wp2_with fail
        go_loopg [9] (l1.length + 1) (fun kq v7 w' => ∃ (i n : Nat), v7 = .int .i64 (i : Int) ∧ Aside0 (kq = l1.length - i + 1) ∧ Aside0 (i ≤ l1.length ∧ (l1.take i).any (out 2147483648) = false) ∧ Aside0 (w' = w.drewN n))
        case atStart => exact ⟨0, n, rfl, ⟨rfl⟩, ⟨⟨Nat.zero_le _, rfl⟩⟩, ⟨hwm.symm⟩⟩
        case round =>
          obtain ⟨j, m, rfl, HQ, HI, HW⟩ := hrel
          have hw := HW.out
          subst hw
          clear HW hi1 hi2 hwm
          by_cases hi : j < l1.length
          · have e8 : wrap64 ((j : Int) + 1) = ((j + 1 : Nat) : Int) := by have := HL.out; unfold wrap64; omega
            obtain ⟨ad, e0, x0⟩ := Kd.at_int (Kd.C_drewN HR1.out m) (j : Int) (by omega) (by omega)
            cases e0
            rw [Int.toNat_natCast] at x0
            have hi1 : decide ((j : Int) < (l1.length : Int)) = true := decide_eq_true (by omega)
            have hi2 : decide (j < l1.length) = true := decide_eq_true hi
            have hx3 : ((j : Int) < (l1.length : Int)) = True := eq_true (by omega)
            have hx4 : (j < l1.length) = True := eq_true hi
            have HI1 := Aside0.mk hi
            have HTK : Aside0 ((l1.take (j + 1)).any (out 2147483648) = out 2147483648 (rd l1 (j : Int))) := ⟨any_take hi (by simp [rd, List.getD_eq_getElem?_getD, List.getElem?_eq_getElem hi]) HI.out.2⟩
            clear hi
            go_wp2_with fail
            refine (dioramaref16_in.calls (rd l1 (j : Int)) (-2147483648) 2147483648 (!out 2147483648 (rd l1 (j : Int))) _ (by rw [rin_f]; simp [out])).mono ?_
            rintro e w2 ⟨rfl, ⟨n2, rfl⟩⟩
            cases hb : out 2147483648 (rd l1 (j : Int)) with
            | true =>
              have HB : Aside0 (l1.any (out 2147483648) = true) := ⟨List.any_eq_true.mpr ⟨rd l1 (j : Int), by have h9 := HI1.out; simp [rd, List.getD_eq_getElem?_getD, List.getElem?_eq_getElem h9], hb⟩⟩
              have hF : (([] : List Int), (1 : Int)) = (r0, r1) := Eq.trans (by unfold restF; rw [if_pos (.inr (.inr (.inr HB.out)))]) HF.out
              cases hF
              go_wp2_with fail
              go_ret2
              exact ⟨_, rfl, Kd.R_nil _ _ _ _ _, pw_below_drewN (Below.refl _ _) (m + n2)⟩
            | false =>
              go_wp2_with fail
              go_roundg (l1.length - (j + 1) + 1)
              case measure => have := HQ.out; have := HI1.out; omega
              case rel => exact ⟨j + 1, m + n2, by rw [e8], ⟨rfl⟩, ⟨⟨HI1.out, by rw [HTK.out, hb]⟩⟩, ⟨rfl⟩⟩
          · have hi1 : decide ((j : Int) < (l1.length : Int)) = false := decide_eq_false (by omega)
            have hi2 : decide (j < l1.length) = false := decide_eq_false hi
            have hz : l1.any (out 2147483648) = false := by have h9 := HI.out.2; rwa [List.take_of_length_le (by omega)] at h9
            have HZ1 := Aside0.mk hz
            have HNO : Aside0 (¬ (o < 0 ∨ 5 < o ∨ l0.any (out 67108864) = true ∨ l1.any (out 2147483648) = true)) := ⟨by
              have := HO.out
              rw [HZ.out, hz]
              rintro (h | h | h | h)
              · omega
              · omega
              · cases h
              · cases h⟩
            clear hi hz
            have HWF : Aside0 (dioramaref16_warmth.f o = some (if o = 5 then 0 else o)) := ⟨by
              unfold dioramaref16_warmth.f
              by_cases h : o = 5
              · rw [if_pos h, if_pos h]
              · rw [if_neg h, if_neg h]⟩
            obtain ⟨wv, hwv⟩ : ∃ wv : Nat, wv = (if o = 5 then 0 else o).toNat := ⟨_, rfl⟩
            have HWV : Aside0 ((if o = 5 then 0 else o) = (wv : Int) ∧ (warmN o.toNat (l0.length + l1.length) = min wv (l0.length + l1.length)) ∧ wv ≤ 5) := ⟨by
              have := HO.out
              unfold warmN
              by_cases h : o = 5
              · rw [if_pos h] at hwv ⊢
                rw [if_pos (by omega)]
                omega
              · rw [if_neg h] at hwv ⊢
                rw [if_neg (by omega)]
                omega⟩
            rw [HWV.out.1] at HWF
            clear hwv
            go_wp2_with fail
            refine (dioramaref16_warmth.calls o (wv : Int) _ HWF.out).mono ?_
            rintro e w1 ⟨rfl, hbel1⟩
            have B1 : Aside0 (Below w.heap.size w w1) := ⟨below_step (pw_below_drewN (Below.refl _ _) m) (by first | exact hbel1.below | exact hbel1)⟩
            clear hbel1 hi1 hi2
            by_cases hgt : wv < l0.length
            · have hF : (([] : List Int), (4 : Int)) = (r0, r1) := Eq.trans (by unfold restF; rw [if_neg HNO.out, if_pos (by have := HWV.out.2.1; omega)]) HF.out
              cases hF
              have q1 : decide ((wv : Int) < (l0.length : Int)) = true := decide_eq_true (by omega)
              have q2 : decide (wv < l0.length) = true := decide_eq_true (by omega)
              have q3 : ((wv : Int) < (l0.length : Int)) = True := eq_true (by omega)
              have q4 : (wv < l0.length) = True := eq_true (by omega)
              clear hgt
              go_wp2_with fail
              go_ret2
              exact ⟨_, rfl, Kd.R_nil _ _ _ _ _, B1.out⟩
            · have q1 : decide ((wv : Int) < (l0.length : Int)) = false := decide_eq_false (by omega)
              have q2 : decide (wv < l0.length) = false := decide_eq_false (by omega)
              by_cases hlt : l0.length < wv
              · have q5 : decide ((l0.length : Int) < (wv : Int)) = true := decide_eq_true (by omega)
                have q6 : decide (l0.length < wv) = true := decide_eq_true (by omega)
                by_cases h0 : 0 < l1.length
                · have hF : (([] : List Int), (4 : Int)) = (r0, r1) := Eq.trans (by unfold restF; rw [if_neg HNO.out, if_pos (by have := HWV.out.2.1; omega)]) HF.out
                  cases hF
                  have q7 : decide ((0 : Int) < (l1.length : Int)) = true := decide_eq_true (by omega)
                  have q8 : decide (0 < l1.length) = true := decide_eq_true h0
                  clear hgt hlt h0
                  go_wp2_with fail
                  go_ret2
                  exact ⟨_, rfl, Kd.R_nil _ _ _ _ _, B1.out⟩
                · have q7 : decide ((0 : Int) < (l1.length : Int)) = false := decide_eq_false (by omega)
                  have q8 : decide (0 < l1.length) = false := decide_eq_false h0
                  have HWN : Aside0 (l0.length = warmN o.toNat (l0.length + l1.length)) := ⟨by have := HWV.out.2.1; omega⟩
                  clear hgt hlt h0
                  have ea : wrap64 ((l0.length : Int) + (l1.length : Int)) = (l0.length : Int) + (l1.length : Int) := by have := HL.out; unfold wrap64; omega
                  by_cases h16 : 16384 < l0.length + l1.length
                  · have hF : (([] : List Int), (2 : Int)) = (r0, r1) := Eq.trans (by unfold restF; rw [if_neg HNO.out, if_neg (by have := HWN.out; omega), if_pos h16]) HF.out
                    cases hF
                    have h16' : decide (16384 < l0.length + l1.length) = true := decide_eq_true (by omega)
                    have h16'' : decide (16384 < (l0.length : Int) + (l1.length : Int)) = true := decide_eq_true (by omega)
                    clear h16
                    go_wp2_with fail
                    go_ret2
                    exact ⟨_, rfl, Kd.R_nil _ _ _ _ _, B1.out⟩
                  · have HF2 : Aside0 (restR o.toNat l0 l1 = (r0, r1)) := ⟨Eq.trans (by unfold restF; rw [if_neg HNO.out, if_neg (by have := HWN.out; omega), if_neg h16]) HF.out⟩
                    have HL2 : Aside0 (l0.length + l1.length ≤ 16384) := ⟨by omega⟩
                    have h16' : decide (16384 < l0.length + l1.length) = false := decide_eq_false (by omega)
                    have h16'' : decide (16384 < (l0.length : Int) + (l1.length : Int)) = false := decide_eq_false (by omega)
                    obtain ⟨on, hon⟩ : ∃ on : Nat, o = (on : Int) := ⟨o.toNat, by have := HO.out; omega⟩
                    have HON : Aside0 (on ≤ 5) := ⟨by have := HO.out; omega⟩
                    subst hon
                    rw [Int.toNat_natCast] at HF2
                    clear h16
                    go_wp2_with (at_builtin; refine print_append_row (w0 := w) (W := w1) w.heap.size rfl _ (.tmp 66) 22 3 .i64 8 rfl Try.underlying22 info3 (by decide) (.slice none 0 0) [] l0 A0 l0.length c0 rfl rfl (own_nil _ _ _ _) (Kd.reads_of_C (d := (0 : Int)) (Kd.C_below HR.out B1.out)) B1.out B1.out.size (by have h2 := HL2.out; simp; omega) ?_; intro v1 w2 hown hB hG hat; have S1 := Aside0.mk hown; have S2 := Aside0.mk hB; clear hown hB hG hat)
                    refine (dioramaref16_newPredictor.calls (on : Int) (on : Int) 1024 0 0 0 w w2 S2.out rfl).mono ?_
                    rintro e w4 ⟨g, rfl, hs, hb4, hbb⟩
                    have P4 : Aside0 (IsX w4 g (on : Int) f0) := ⟨⟨hs.1⟩⟩
                    have G4 : Aside0 (w.heap.size ≤ g) := ⟨hs.2⟩
                    have B4 := Aside0.mk hb4
                    have R4 : Aside0 (w4.ownsRow w.heap.size 3 1 v1 l0.length (nums .i64 l0)) := ⟨Kd.own_of_R (h1 := fun _ => rfl) (Kd.R_below (ok := fun _ => True) (Kd.R_of_own (enc := Value.int .i64) (h1 := fun _ => rfl) (xs := l0) (by simpa [encs, nums] using S1.out) (fun _ _ => trivial)) hbb)⟩
                    clear hs hb4 hbb ea h16' h16''
                    go_wp2_with fail
                    go_loopg [11, 13] (l1.length + 1) (fun kq v10 v44 w' => ∃ (k : Nat), v44 = .int .i64 (k : Int) ∧ Aside0 (kq = l1.length - k + 1) ∧ Aside0 (k ≤ l1.length) ∧ Aside0 (restOk on l0 l1 k = true) ∧ Aside0 (∃ f, IsX w' g (on : Int) f ∧ (on = 5 → f = (restI on l0 l1 k).1)) ∧ Aside0 (w'.ownsRow w.heap.size 3 1 v10 (restI on l0 l1 k).2.length (nums .i64 (restI on l0 l1 k).2)) ∧ Aside0 (Below w.heap.size w w'))
                    case atStart => exact ⟨0, rfl, ⟨rfl⟩, ⟨Nat.zero_le _⟩, ⟨rfl⟩, ⟨⟨_, P4.out, fun _ => rfl⟩⟩, ⟨R4.out⟩, B4⟩
                    case round =>
                      obtain ⟨k, rfl, HQ, HK, HOK, HPE, HO5, HBW⟩ := hrel
                      obtain ⟨fr, hp0, hfr0⟩ := HPE.out
                      have HP := Aside0.mk hp0
                      have HFR := Aside0.mk hfr0
                      clear hp0 hfr0 HPE
                      by_cases hk : k = l1.length
                      · have hx1 : decide ((k : Int) < (l1.length : Int)) = false := decide_eq_false (by omega)
                        have hx2 : decide (k < l1.length) = false := decide_eq_false (by omega)
                        have hF : ((restI on l0 l1 k).2, (0 : Int)) = (r0, r1) := by
                          have h1 := HOK.out
                          rw [← HF2.out, restR, ← hk, if_pos h1]
                        obtain ⟨s, hs⟩ : ∃ s, (restI on l0 l1 k).2 = s := ⟨_, rfl⟩
                        rw [hs] at hF HO5
                        clear hs
                        cases hF
                        clear hk
                        go_wp2_with fail
                        go_ret2
                        exact ⟨_, rfl, Kd.R_of_own (h1 := fun _ => rfl) (by simpa [encs, nums] using HO5.out) (fun _ _ => trivial), HBW.out⟩
                      · have hk' : k < l1.length := by have := HK.out; omega
                        have hx1 : decide ((k : Int) < (l1.length : Int)) = true := decide_eq_true (by omega)
                        have hx2 : decide (k < l1.length) = true := decide_eq_true hk'
                        have hx3 : ((k : Int) < (l1.length : Int)) = True := eq_true (by omega)
                        have hx4 : (k < l1.length) = True := eq_true hk'
                        have HKL := Aside0.mk hk'
                        obtain ⟨ad, e0, x0⟩ := Kd.at_int (Kd.C_below HR1.out HBW.out) (k : Int) (by omega) (by omega)
                        cases e0
                        rw [Int.toNat_natCast] at x0
                        have e8 : wrap64 ((k : Int) + 1) = ((k + 1 : Nat) : Int) := by have := HL2.out; unfold wrap64; omega
                        have HSL := Aside0.mk (restI_len on l0 l1 k)
                        have HSI := Aside0.mk (restI_in (o := on) (lf := l1) HZ.out k HOK.out)
                        obtain ⟨s, hs⟩ : ∃ s, (restI on l0 l1 k).2 = s := ⟨_, rfl⟩
                        have HS := Aside0.mk hs
                        rw [hs] at HO5 HSL HSI
                        have HLS : Aside0 (s.length ≤ 4611686018427387904) := ⟨by have := HSL.out; have := HL2.out; omega⟩
                        have N5 := own_ne HO5.out HP.out.hg (by decide)
                        have HNE := Aside0.mk N5
                        have hRR := Kd.R_of_own (ok := fun _ => True) (enc := Value.int .i64) (h1 := fun _ => rfl) (xs := s) (by simpa [encs, nums] using HO5.out) (fun _ _ => trivial)
                        obtain ⟨As, cs, rfl⟩ := Kd.R_slice hRR
                        have HRC := Aside0.mk (Kd.R_reads' hRR)
                        obtain ⟨pv, hpv⟩ : ∃ pv, predF on (restI on l0 l1 k).1 (bef s s.length) = pv := ⟨_, rfl⟩
                        have HPV := Aside0.mk hpv
                        obtain ⟨v, hv⟩ : ∃ v, wrap64 (rd l1 (k : Int) + pv) = v := ⟨_, rfl⟩
                        have HV2 : Aside0 (restV on l0 l1 k = v) := ⟨by rw [restV, HS.out, HPV.out, Int.add_comm, hv]⟩
                        have HPR : Aside0 (∀ m, Calls Try.prog 72 #[.pointer (some ⟨g, 0, none⟩), .slice As s.length cs, .int .i64 (s.length : Int)] (wr.drewN m) fun e w' => e = .returned (.int .i64 pv) ∧ ∃ m', w' = (wr.drewN m).drewN m') := ⟨fun m => by
                          rw [← HPV.out, ← predF_same HFR.out]
                          exact next_calls (w := wr.drewN m) HON.out (HP.out.same rfl) As cs s (Kd.C_drewN HRC.out.2.2 m) HRC.out.2.1 s.length (Nat.le_refl _) HLS.out (all_in HSI.out)⟩
                        clear hk hk' hs N5 hRR hpv
                        go_wp2_with fail
                        go_quiet (first | (go_at_call 72; exact Calls.quiet_of (HPR.out _)))
                        go_wp2_with fail
                        refine (dioramaref16_in.calls v (-67108864) 67108864 (!out 67108864 v) _ (by rw [rin_f]; simp [out])).mono ?_
                        rintro e w8 ⟨rfl, ⟨n8, rfl⟩⟩
                        cases ho : out 67108864 v with
                        | true =>
                          have HFF : (([] : List Int), (1 : Int)) = (r0, r1) := by
                            have h1 : restOk on l0 l1 (k + 1) = false := by rw [restOk, HV2.out, ho]; simp
                            have h2 := restOk_mono h1 (l1.length - (k + 1))
                            rw [show k + 1 + (l1.length - (k + 1)) = l1.length by have := HKL.out; omega] at h2
                            rw [← HF2.out, restR, h2]; rfl
                          cases HFF
                          go_wp2_with fail
                          go_ret2
                          exact ⟨_, rfl, Kd.R_nil _ _ _ _ _, pw_below_drewN HBW.out _⟩
                        | false =>
                          have HOUT := Aside0.mk ho
                          have HRL : Aside0 (∀ w', Moved (wr.drewN (nq + n8)) w' (fun k => k = g) (fun k => k = g) → Kd.C (Kd.int .i64) w' As s.length s) := ⟨fun w' hm => by
                            have h := own_moved (pw_own_drewN HO5.out (nq + n8)) HNE.out hm
                            have hR : Kd.R (Kd.int .i64) 3 w' w.heap.size (fun _ => True) (.slice As s.length cs) s := Kd.R_of_own (h1 := fun _ => rfl) (by simpa [encs, nums] using h) (fun _ _ => trivial)
                            exact (Kd.R_reads' hR).2.2⟩
                          go_wp2_with fail
                          refine (rlearn_calls (w := wr.drewN (nq + n8)) (HP.out.same rfl) HFR.out As cs s HRL.out HRC.out.2.1 HLS.out s.length (Nat.le_refl _) (rd l1 (k : Int))).mono ?_
                          rintro e w9 ⟨rfl, ⟨f5, hp, hf5⟩, hm⟩
                          have HF5 := Aside0.mk hf5
                          have O9 := Aside0.mk (own_moved (pw_own_drewN HO5.out (nq + n8)) HNE.out hm)
                          have B9 : Aside0 (Below w.heap.size w w9) := ⟨(pw_below_drewN HBW.out _).trans (hm.below (base := w.heap.size) (fun k hk => by have := G4.out; omega) HBW.out.size)⟩
                          have P9 := Aside0.mk hp
                          clear hp hm hf5
                          go_wp2_with (at_builtin; refine print_append_num (w0 := w) w.heap.size rfl (.tmp 98) (.tmp 100) 22 3 .i64 8 rfl Try.underlying22 info3 (by decide) _ s v rfl rfl O9.out B9.out B9.out.size (by have h1 := HSL.out; have h2 := HL2.out; have h3 := HKL.out; omega) ?_; intro v1 w10 hown hB hG hat; have S1 := Aside0.mk hown; have S2 := Aside0.mk hB; have S3 := Aside0.mk (blk_grown P9.out.hg hG HNE.out); clear hown hB hG hat)
                          go_roundg (l1.length - (k + 1) + 1)
                          case measure => have := HQ.out; have := HKL.out; omega
                          case rel =>
                            have e4 : restI on l0 l1 (k + 1) = (learnF (rd l1 (k : Int)) (bef s s.length) (restI on l0 l1 k).1 4, s ++ [v]) := by
                              have h1 := HV2.out
                              unfold restV at h1
                              rw [restI, h1, HS.out]
                            refine ⟨k + 1, by rw [e8], ⟨rfl⟩, ⟨by have := HKL.out; omega⟩, ⟨by rw [restOk, HOK.out, HV2.out, HOUT.out]; rfl⟩, ⟨by rw [e4]; exact ⟨f5, ⟨S3.out⟩, HF5.out⟩⟩, ⟨by rw [e4]; exact S1.out⟩, ⟨S2.out⟩⟩
              · have q5 : decide ((l0.length : Int) < (wv : Int)) = false := decide_eq_false (by omega)
                have q6 : decide (l0.length < wv) = false := decide_eq_false (by omega)
                have HWN : Aside0 (l0.length = warmN o.toNat (l0.length + l1.length)) := ⟨by have := HWV.out.2.1; omega⟩
                clear hgt hlt
                have ea : wrap64 ((l0.length : Int) + (l1.length : Int)) = (l0.length : Int) + (l1.length : Int) := by have := HL.out; unfold wrap64; omega
                by_cases h16 : 16384 < l0.length + l1.length
                · have hF : (([] : List Int), (2 : Int)) = (r0, r1) := Eq.trans (by unfold restF; rw [if_neg HNO.out, if_neg (by have := HWN.out; omega), if_pos h16]) HF.out
                  cases hF
                  have h16' : decide (16384 < l0.length + l1.length) = true := decide_eq_true (by omega)
                  have h16'' : decide (16384 < (l0.length : Int) + (l1.length : Int)) = true := decide_eq_true (by omega)
                  clear h16
                  go_wp2_with fail
                  go_ret2
                  exact ⟨_, rfl, Kd.R_nil _ _ _ _ _, B1.out⟩
                · have HF2 : Aside0 (restR o.toNat l0 l1 = (r0, r1)) := ⟨Eq.trans (by unfold restF; rw [if_neg HNO.out, if_neg (by have := HWN.out; omega), if_neg h16]) HF.out⟩
                  have HL2 : Aside0 (l0.length + l1.length ≤ 16384) := ⟨by omega⟩
                  have h16' : decide (16384 < l0.length + l1.length) = false := decide_eq_false (by omega)
                  have h16'' : decide (16384 < (l0.length : Int) + (l1.length : Int)) = false := decide_eq_false (by omega)
                  obtain ⟨on, hon⟩ : ∃ on : Nat, o = (on : Int) := ⟨o.toNat, by have := HO.out; omega⟩
                  have HON : Aside0 (on ≤ 5) := ⟨by have := HO.out; omega⟩
                  subst hon
                  rw [Int.toNat_natCast] at HF2
                  clear h16
                  go_wp2_with (at_builtin; refine print_append_row (w0 := w) (W := w1) w.heap.size rfl _ (.tmp 66) 22 3 .i64 8 rfl Try.underlying22 info3 (by decide) (.slice none 0 0) [] l0 A0 l0.length c0 rfl rfl (own_nil _ _ _ _) (Kd.reads_of_C (d := (0 : Int)) (Kd.C_below HR.out B1.out)) B1.out B1.out.size (by have h2 := HL2.out; simp; omega) ?_; intro v1 w2 hown hB hG hat; have S1 := Aside0.mk hown; have S2 := Aside0.mk hB; clear hown hB hG hat)
                  refine (dioramaref16_newPredictor.calls (on : Int) (on : Int) 1024 0 0 0 w w2 S2.out rfl).mono ?_
                  rintro e w4 ⟨g, rfl, hs, hb4, hbb⟩
                  have P4 : Aside0 (IsX w4 g (on : Int) f0) := ⟨⟨hs.1⟩⟩
                  have G4 : Aside0 (w.heap.size ≤ g) := ⟨hs.2⟩
                  have B4 := Aside0.mk hb4
                  have R4 : Aside0 (w4.ownsRow w.heap.size 3 1 v1 l0.length (nums .i64 l0)) := ⟨Kd.own_of_R (h1 := fun _ => rfl) (Kd.R_below (ok := fun _ => True) (Kd.R_of_own (enc := Value.int .i64) (h1 := fun _ => rfl) (xs := l0) (by simpa [encs, nums] using S1.out) (fun _ _ => trivial)) hbb)⟩
                  clear hs hb4 hbb ea h16' h16''
                  go_wp2_with fail
                  go_loopg [11, 13] (l1.length + 1) (fun kq v10 v44 w' => ∃ (k : Nat), v44 = .int .i64 (k : Int) ∧ Aside0 (kq = l1.length - k + 1) ∧ Aside0 (k ≤ l1.length) ∧ Aside0 (restOk on l0 l1 k = true) ∧ Aside0 (∃ f, IsX w' g (on : Int) f ∧ (on = 5 → f = (restI on l0 l1 k).1)) ∧ Aside0 (w'.ownsRow w.heap.size 3 1 v10 (restI on l0 l1 k).2.length (nums .i64 (restI on l0 l1 k).2)) ∧ Aside0 (Below w.heap.size w w'))
                  case atStart => exact ⟨0, rfl, ⟨rfl⟩, ⟨Nat.zero_le _⟩, ⟨rfl⟩, ⟨⟨_, P4.out, fun _ => rfl⟩⟩, ⟨R4.out⟩, B4⟩
                  case round =>
                    obtain ⟨k, rfl, HQ, HK, HOK, HPE, HO5, HBW⟩ := hrel
                    obtain ⟨fr, hp0, hfr0⟩ := HPE.out
                    have HP := Aside0.mk hp0
                    have HFR := Aside0.mk hfr0
                    clear hp0 hfr0 HPE
                    by_cases hk : k = l1.length
                    · have hx1 : decide ((k : Int) < (l1.length : Int)) = false := decide_eq_false (by omega)
                      have hx2 : decide (k < l1.length) = false := decide_eq_false (by omega)
                      have hF : ((restI on l0 l1 k).2, (0 : Int)) = (r0, r1) := by
                        have h1 := HOK.out
                        rw [← HF2.out, restR, ← hk, if_pos h1]
                      obtain ⟨s, hs⟩ : ∃ s, (restI on l0 l1 k).2 = s := ⟨_, rfl⟩
                      rw [hs] at hF HO5
                      clear hs
                      cases hF
                      clear hk
                      go_wp2_with fail
                      go_ret2
                      exact ⟨_, rfl, Kd.R_of_own (h1 := fun _ => rfl) (by simpa [encs, nums] using HO5.out) (fun _ _ => trivial), HBW.out⟩
                    · have hk' : k < l1.length := by have := HK.out; omega
                      have hx1 : decide ((k : Int) < (l1.length : Int)) = true := decide_eq_true (by omega)
                      have hx2 : decide (k < l1.length) = true := decide_eq_true hk'
                      have hx3 : ((k : Int) < (l1.length : Int)) = True := eq_true (by omega)
                      have hx4 : (k < l1.length) = True := eq_true hk'
                      have HKL := Aside0.mk hk'
                      obtain ⟨ad, e0, x0⟩ := Kd.at_int (Kd.C_below HR1.out HBW.out) (k : Int) (by omega) (by omega)
                      cases e0
                      rw [Int.toNat_natCast] at x0
                      have e8 : wrap64 ((k : Int) + 1) = ((k + 1 : Nat) : Int) := by have := HL2.out; unfold wrap64; omega
                      have HSL := Aside0.mk (restI_len on l0 l1 k)
                      have HSI := Aside0.mk (restI_in (o := on) (lf := l1) HZ.out k HOK.out)
                      obtain ⟨s, hs⟩ : ∃ s, (restI on l0 l1 k).2 = s := ⟨_, rfl⟩
                      have HS := Aside0.mk hs
                      rw [hs] at HO5 HSL HSI
                      have HLS : Aside0 (s.length ≤ 4611686018427387904) := ⟨by have := HSL.out; have := HL2.out; omega⟩
                      have N5 := own_ne HO5.out HP.out.hg (by decide)
                      have HNE := Aside0.mk N5
                      have hRR := Kd.R_of_own (ok := fun _ => True) (enc := Value.int .i64) (h1 := fun _ => rfl) (xs := s) (by simpa [encs, nums] using HO5.out) (fun _ _ => trivial)
                      obtain ⟨As, cs, rfl⟩ := Kd.R_slice hRR
                      have HRC := Aside0.mk (Kd.R_reads' hRR)
                      obtain ⟨pv, hpv⟩ : ∃ pv, predF on (restI on l0 l1 k).1 (bef s s.length) = pv := ⟨_, rfl⟩
                      have HPV := Aside0.mk hpv
                      obtain ⟨v, hv⟩ : ∃ v, wrap64 (rd l1 (k : Int) + pv) = v := ⟨_, rfl⟩
                      have HV2 : Aside0 (restV on l0 l1 k = v) := ⟨by rw [restV, HS.out, HPV.out, Int.add_comm, hv]⟩
                      have HPR : Aside0 (∀ m, Calls Try.prog 72 #[.pointer (some ⟨g, 0, none⟩), .slice As s.length cs, .int .i64 (s.length : Int)] (wr.drewN m) fun e w' => e = .returned (.int .i64 pv) ∧ ∃ m', w' = (wr.drewN m).drewN m') := ⟨fun m => by
                        rw [← HPV.out, ← predF_same HFR.out]
                        exact next_calls (w := wr.drewN m) HON.out (HP.out.same rfl) As cs s (Kd.C_drewN HRC.out.2.2 m) HRC.out.2.1 s.length (Nat.le_refl _) HLS.out (all_in HSI.out)⟩
                      clear hk hk' hs N5 hRR hpv
                      go_wp2_with fail
                      go_quiet (first | (go_at_call 72; exact Calls.quiet_of (HPR.out _)))
                      go_wp2_with fail
                      refine (dioramaref16_in.calls v (-67108864) 67108864 (!out 67108864 v) _ (by rw [rin_f]; simp [out])).mono ?_
                      rintro e w8 ⟨rfl, ⟨n8, rfl⟩⟩
                      cases ho : out 67108864 v with
                      | true =>
                        have HFF : (([] : List Int), (1 : Int)) = (r0, r1) := by
                          have h1 : restOk on l0 l1 (k + 1) = false := by rw [restOk, HV2.out, ho]; simp
                          have h2 := restOk_mono h1 (l1.length - (k + 1))
                          rw [show k + 1 + (l1.length - (k + 1)) = l1.length by have := HKL.out; omega] at h2
                          rw [← HF2.out, restR, h2]; rfl
                        cases HFF
                        go_wp2_with fail
                        go_ret2
                        exact ⟨_, rfl, Kd.R_nil _ _ _ _ _, pw_below_drewN HBW.out _⟩
                      | false =>
                        have HOUT := Aside0.mk ho
                        have HRL : Aside0 (∀ w', Moved (wr.drewN (nq + n8)) w' (fun k => k = g) (fun k => k = g) → Kd.C (Kd.int .i64) w' As s.length s) := ⟨fun w' hm => by
                          have h := own_moved (pw_own_drewN HO5.out (nq + n8)) HNE.out hm
                          have hR : Kd.R (Kd.int .i64) 3 w' w.heap.size (fun _ => True) (.slice As s.length cs) s := Kd.R_of_own (h1 := fun _ => rfl) (by simpa [encs, nums] using h) (fun _ _ => trivial)
                          exact (Kd.R_reads' hR).2.2⟩
                        go_wp2_with fail
                        refine (rlearn_calls (w := wr.drewN (nq + n8)) (HP.out.same rfl) HFR.out As cs s HRL.out HRC.out.2.1 HLS.out s.length (Nat.le_refl _) (rd l1 (k : Int))).mono ?_
                        rintro e w9 ⟨rfl, ⟨f5, hp, hf5⟩, hm⟩
                        have HF5 := Aside0.mk hf5
                        have O9 := Aside0.mk (own_moved (pw_own_drewN HO5.out (nq + n8)) HNE.out hm)
                        have B9 : Aside0 (Below w.heap.size w w9) := ⟨(pw_below_drewN HBW.out _).trans (hm.below (base := w.heap.size) (fun k hk => by have := G4.out; omega) HBW.out.size)⟩
                        have P9 := Aside0.mk hp
                        clear hp hm hf5
                        go_wp2_with (at_builtin; refine print_append_num (w0 := w) w.heap.size rfl (.tmp 98) (.tmp 100) 22 3 .i64 8 rfl Try.underlying22 info3 (by decide) _ s v rfl rfl O9.out B9.out B9.out.size (by have h1 := HSL.out; have h2 := HL2.out; have h3 := HKL.out; omega) ?_; intro v1 w10 hown hB hG hat; have S1 := Aside0.mk hown; have S2 := Aside0.mk hB; have S3 := Aside0.mk (blk_grown P9.out.hg hG HNE.out); clear hown hB hG hat)
                        go_roundg (l1.length - (k + 1) + 1)
                        case measure => have := HQ.out; have := HKL.out; omega
                        case rel =>
                          have e4 : restI on l0 l1 (k + 1) = (learnF (rd l1 (k : Int)) (bef s s.length) (restI on l0 l1 k).1 4, s ++ [v]) := by
                            have h1 := HV2.out
                            unfold restV at h1
                            rw [restI, h1, HS.out]
                          refine ⟨k + 1, by rw [e8], ⟨rfl⟩, ⟨by have := HKL.out; omega⟩, ⟨by rw [restOk, HOK.out, HV2.out, HOUT.out]; rfl⟩, ⟨by rw [e4]; exact ⟨f5, ⟨S3.out⟩, HF5.out⟩⟩, ⟨by rw [e4]; exact S1.out⟩, ⟨S2.out⟩⟩
  · have hF : (([] : List Int), (1 : Int)) = (r0, r1) := Eq.trans (by unfold restF; rw [if_pos (by omega)]) HF.out
    cases hF
    have HI0 : Aside0 ((decide ((0 : Int) ≤ o) && decide (o ≤ 5)) = false) := ⟨by simp; omega⟩
    clear ho
    go_enter Try.func26, Try.ntmps26
    go_wp2_with fail
    refine (dioramaref16_in.calls o 0 5 false _ (by rw [rin_f, HI0.out])).mono ?_
    rintro e w1 ⟨rfl, ⟨n1, rfl⟩⟩
    go_wp2_with fail
    go_ret2
    exact ⟨_, rfl, Kd.R_nil _ _ _ _ _, pw_below_drewN (Below.refl _ _) n1⟩
def dioramaref16_Restore.f (l0 : List Int) (l1 : List Int) (a2 : Int) : Option (List Int × Int) := if l0.length + l1.length ≤ 4611686018427387904 then some (restF l0 l1 a2) else none
theorem dioramaref16_Restore.calls (A0 : Option Addr) (c0 : Nat) (l0 : List Int) (A1 : Option Addr) (c1 : Nat) (l1 : List Int) (a2 : Int) (r1 : List Int) (r2 : Int) (w : World) (hr0 : Kd.C (Kd.int .i64) w A0 l0.length l0) (hc0 : l0.length ≤ c0) (hr1 : Kd.C (Kd.int .i64) w A1 l1.length l1) (hc1 : l1.length ≤ c1) (h : dioramaref16_Restore.f l0 l1 a2 = some (r1, r2)) :
    Calls Try.prog 26 #[.slice A0 l0.length c0, .slice A1 l1.length c1, .int .i64 a2] w fun e w' => ∃ v0_ : Value, e = .returned (.tuple #[v0_, .int .i64 r2]) ∧ Kd.R (Kd.int .i64) 3 w' w.heap.size (fun _ => True) v0_ r1 ∧ Below w.heap.size w w' := by
  unfold dioramaref16_Restore.f at h
  by_cases hs : l0.length + l1.length ≤ 4611686018427387904
  · rw [if_pos hs] at h
    have e := Option.some.inj h
    have hh := rrestore_calls (w := w) a2 A0 c0 l0 hr0 hc0 A1 c1 l1 hr1 hc1 hs
    rw [e] at hh
    exact hh
  · rw [if_neg hs] at h; cases h

end Go.Proofs.Ytdiemkeflmflaaa.QSound
