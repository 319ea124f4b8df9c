/- A lemma file: the reference's left. No condition. -/
import Derived.Test.YtdiemkeflmflaaaSG
import Derived.Test.YtdiemkeflmflaaaQSoundx3
namespace Go.Proofs.Ytdiemkeflmflaaa.QSound
open Go.RowKit Go.Proofs.YtdiemkeflmflaaaW.PrintWords Go.Proofs.YtdiemkeflmflaaaW.PrintLast Go.Proofs.YtdiemkeflmflaaaW.PrintMore Go.Proofs.YtdiemkeflmflaaaV
set_option linter.unusedVariables false
set_option linter.unusedSimpArgs false
attribute [local go_sem] max2_int min2_int max_two min_two
set_option maxRecDepth 100000 in
set_option maxHeartbeats 2000000 in
theorem rleft_ok {w : World} (o : Nat) (ho : o ≤ 5) (A0 : Option Addr) (c0 : Nat) (l0 : List Int) (hr0 : Kd.C (Kd.int .i64) w A0 l0.length l0) (hc0 : l0.length ≤ c0) (hb : l0.any (out 67108864) = false) (hl : l0.length ≤ 16384) :
    Calls Try.prog 69 #[.slice A0 l0.length c0, .int .i64 (o : Int)] w fun e w' => ∃ v0 v1, e = .returned (.tuple #[v0, v1]) ∧ Kd.R (Kd.int .i64) 3 w' w.heap.size (fun _ => True) v0 (l0.take (warmN o l0.length)) ∧ Kd.R (Kd.int .i64) 3 w' w.heap.size (fun _ => True) v1 (leftS l0 o (warmN o l0.length) (l0.length - warmN o l0.length)).2 ∧ Below w.heap.size w w' := by
  have info3 : (Try.prog.info? 3).map (fun i => (i.zero, i.size, i.bytes)) = some (some (.int .i64 0), 1, 8) := by kernel_rfl
  have HR := Aside0.mk hr0
  have HC := Aside0.mk hc0
  have HL := Aside0.mk hl
  have HO := Aside0.mk ho
  have HB := Aside0.mk hb
  have HN : Aside0 (warmN o l0.length ≤ l0.length) := ⟨by unfold warmN; split <;> omega⟩
  have HWF : Aside0 (dioramaref16_warmth.f (o : Int) = some (if o = 5 then 0 else (o : Int))) := ⟨by
    unfold dioramaref16_warmth.f
    by_cases h : o = 5
    · rw [if_pos (by omega), if_pos h]
    · rw [if_neg (by omega), if_neg h]⟩
  obtain ⟨wv, hwv⟩ : ∃ wv, (if o = 5 then (0 : Int) else (o : Int)) = wv := ⟨_, rfl⟩
  rw [hwv] at HWF
  have hmin : (if (l0.length : Int) < wv then (l0.length : Int) else wv) = ((warmN o l0.length : Nat) : Int) := by
    rw [← hwv]
    unfold warmN
    by_cases h : o = 5
    · rw [if_pos h, if_pos h, if_neg (by omega)]; rfl
    · rw [if_neg h, if_neg h]
      split <;> omega
  clear hwv
  clear hr0 hc0 hl ho hb
  generalize hn : warmN o l0.length = n at HN hmin ⊢
  clear hn
  go_enter Try.func69, Try.ntmps69
  go_wp2_with fail
  refine (dioramaref16_warmth.calls (o : Int) wv _ HWF.out).mono ?_
  rintro e w1 ⟨rfl, hbel1⟩
  have B1 : Aside0 (Below w.heap.size w w1) := ⟨by first | exact hbel1.below | exact hbel1⟩
  clear hbel1
  go_wp2_with fail
  refine (dioramaref16_newPredictor.calls (o : Int) (o : Int) 1024 0 0 0 w w1 B1.out rfl).mono ?_
  rintro e w4 ⟨g, rfl, hs, hb4, -⟩
  have P4 : Aside0 (IsX w4 g (o : Int) f0) := ⟨⟨hs.1⟩⟩
  have G4 : Aside0 (w.heap.size ≤ g) := ⟨hs.2⟩
  have B4 := Aside0.mk hb4
  clear hs hb4
  go_wp2_with fail
  go_loopg [8, 9] (l0.length - n + 1) (fun kq v8 v9 w' => ∃ (k : Nat), v9 = .int .i64 ((n + k : Nat) : Int) ∧ Aside0 (kq = l0.length - n - k + 1) ∧ Aside0 (n + k ≤ l0.length) ∧ Aside0 (∃ f, IsX w' g (o : Int) f ∧ (o = 5 → f = (leftS l0 o n k).1)) ∧ Aside0 (w'.ownsRow w.heap.size 3 1 v8 (leftS l0 o n k).2.length (nums .i64 (leftS l0 o n k).2)) ∧ Aside0 (Below w.heap.size w w'))
  case atStart => exact ⟨0, rfl, ⟨rfl⟩, ⟨HN.out⟩, ⟨⟨_, P4.out, fun _ => rfl⟩⟩, ⟨own_nil _ _ _ _⟩, B4⟩
  case round =>
    obtain ⟨k, rfl, HQ, HK, HPE, HO5, HBW⟩ := hrel
    obtain ⟨fr, hp0, hfr0⟩ := HPE.out
    have HP := Aside0.mk hp0
    have HFR := Aside0.mk hfr0
    clear hp0 hfr0 HPE
    obtain ⟨t, ht⟩ : ∃ t, n + k = t := ⟨_, rfl⟩
    rw [ht]
    have HT := Aside0.mk ht
    obtain ⟨i0, hi, hz0, hsz, _⟩ := info_parts info3
    by_cases hk : k = l0.length - n
    · have hx1 : decide ((t : Int) < (l0.length : Int)) = false := decide_eq_false (by have := HN.out; omega)
      have hx2 : decide (t < l0.length) = false := decide_eq_false (by have := HN.out; omega)
      have hcut := cut_to (P := Try.prog) 22 3 .i64 Try.underlying22 hi A0 l0.length c0 (n : Int) (by omega) (by have := HN.out; omega) HC.out
      have HRT0 := Kd.C_take (m := n) HR.out HN.out
      obtain ⟨lt, hlt⟩ : ∃ lt, l0.take n = lt := ⟨_, rfl⟩
      have ey : (n : Int).toNat = lt.length := by have := HN.out; rw [← hlt, List.length_take]; omega
      rw [ey] at hcut
      rw [hlt] at HRT0
      have HLT0 := Aside0.mk hlt
      have HRT := Aside0.mk HRT0
      have HCT : Aside0 (lt.length ≤ c0) := ⟨by have := HC.out; have := HN.out; rw [← hlt, List.length_take]; omega⟩
      have HCL : Aside0 (slices_Clone_int_int.f lt = some lt) := ⟨by unfold slices_Clone_int_int.f; rw [if_pos (by have := HL.out; rw [← hlt, List.length_take]; omega)]⟩
      clear hlt HRT0
      have HKE := Aside0.mk hk
      clear hk hi hz0 hsz ht ey
      go_wp2_with (at_builtin; refine print_append_row (w0 := w) (W := wr) w.heap.size rfl _ (.tmp 45) 22 3 .i64 8 rfl Try.underlying22 info3 (by decide) (.slice none 0 0) [] lt A0 lt.length c0 rfl rfl (own_nil _ _ _ _) ?_ HBW.out HBW.out.size (by have h1 := HLT0.out; have h2 := HL.out; have h3 : lt.length ≤ l0.length := (by rw [← h1, List.length_take]; omega); simp; omega) ?_)
      · exact Kd.reads_of_C (d := (0 : Int)) (Kd.C_below HRT.out HBW.out)
      · intro v1 w1 hown hB hG hat
        have S1 := Aside0.mk hown
        have S2 := Aside0.mk hB
        have S3 : Aside0 (Below wr.heap.size wr w1) := ⟨⟨hG.os, hG.tape, hG.output, hG.size, fun k hk => hG.block k hk (by simp [Value.ownBlock])⟩⟩
        clear hown hB hG hat
        go_wp2
        go_ret2
        refine ⟨_, _, rfl, ?_, ?_, S2.out⟩
        · rw [HLT0.out]
          exact Kd.R_of_own (h1 := fun _ => rfl) (by simpa [encs, nums] using S1.out) (fun _ _ => trivial)
        · rw [← HKE.out]
          exact Kd.R_below (Kd.R_of_own (h1 := fun _ => rfl) (by simpa [encs, nums] using HO5.out) (fun _ _ => trivial)) S3.out
    · have hx1 : decide ((t : Int) < (l0.length : Int)) = true := decide_eq_true (by have := HN.out; have := HK.out; omega)
      have hx2 : decide (t < l0.length) = true := decide_eq_true (by have := HN.out; have := HK.out; omega)
      have hx3 : ((t : Int) < (l0.length : Int)) = True := eq_true (by have := HN.out; have := HK.out; omega)
      have hx4 : (t < l0.length) = True := eq_true (by have := HN.out; have := HK.out; omega)
      have HTL : Aside0 (t < l0.length) := ⟨by have := HN.out; have := HK.out; omega⟩
      have hrr := Kd.C_below HR.out HBW.out
      obtain ⟨ad, e0, x0⟩ := Kd.at_int hrr (t : Int) (by omega) (by have := HTL.out; omega)
      cases e0
      rw [Int.toNat_natCast] at x0
      have hcut := cut_to (P := Try.prog) 22 3 .i64 Try.underlying22 hi (some ad) l0.length c0 (t : Int) (by omega) (by have := HTL.out; omega) HC.out
      have HRT0 := Kd.C_take (m := t) HR.out (by have := HTL.out; omega)
      obtain ⟨lt, hlt⟩ : ∃ lt, l0.take t = lt := ⟨_, rfl⟩
      have ey : (t : Int).toNat = lt.length := by have := HTL.out; rw [← hlt, List.length_take]; omega
      rw [ey] at hcut
      rw [hlt] at HRT0
      have HLT0 := Aside0.mk hlt
      have HRT := Aside0.mk HRT0
      have HCT : Aside0 (lt.length ≤ c0) := ⟨by have := HC.out; rw [← hlt, List.length_take]; omega⟩
      have HLT : Aside0 (lt.length ≤ 4611686018427387904) := ⟨by have := HL.out; rw [← hlt, List.length_take]; omega⟩
      have HBE : Aside0 (bef lt lt.length = bef l0 t) := ⟨by rw [← hlt]; exact bef_take (by have := HTL.out; omega)⟩
      clear hlt HRT0
      have e8 : wrap64 ((t : Int) + 1) = ((t + 1 : Nat) : Int) := by have := HL.out; have := HTL.out; unfold wrap64; omega
      obtain ⟨pv, hpv⟩ : ∃ pv, predF o (leftS l0 o n k).1 (bef l0 t) = pv := ⟨_, rfl⟩
      have HPV := Aside0.mk hpv
      have HPR : Aside0 (∀ m, Calls Try.prog 72 #[.pointer (some ⟨g, 0, none⟩), .slice (some ad) l0.length c0, .int .i64 (t : Int)] (wr.drewN m) fun e w' => e = .returned (.int .i64 pv) ∧ ∃ m', w' = (wr.drewN m).drewN m') := ⟨fun m => by
        rw [← HPV.out, ← predF_same HFR.out]
        exact next_calls (w := wr.drewN m) HO.out (HP.out.same rfl) (some ad) c0 l0 (Kd.C_drewN (Kd.C_below HR.out HBW.out) m) HC.out t (by have := HTL.out; omega) (by have := HL.out; omega) (all_in HB.out)⟩
      clear hk hi hz0 hsz ht ey hrr hpv
      go_wp2_with fail
      go_quiet (first | (go_at_call 72; exact Calls.quiet_of (HPR.out _)))
      have HRL : Aside0 (∀ w', Moved (wr.drewN nq) w' (fun k => k = g) (fun k => k = g) → Kd.C (Kd.int .i64) w' (some ad) l0.length l0) := ⟨fun w' hm =>
        Kd.C_below HR.out ((pw_below_drewN HBW.out nq).trans (hm.below (base := w.heap.size) (fun k hk => by have := G4.out; omega) HBW.out.size))⟩
      go_wp2_with fail
      refine (rlearn_calls (w := wr.drewN nq) (HP.out.same rfl) HFR.out (some ad) c0 l0 HRL.out HC.out (by have := HL.out; omega) t (by have := HTL.out; omega) (wrap64 (rd l0 (t : Int) - pv))).mono ?_
      rintro e w5 ⟨rfl, ⟨f5, hp, hf5⟩, hm⟩
      have HF5 := Aside0.mk hf5
      clear hf5
      have N5 := own_ne (pw_own_drewN HO5.out nq) (HP.out.same (W' := wr.drewN nq) rfl).hg (by decide)
      have O5 := Aside0.mk (own_moved (pw_own_drewN HO5.out nq) N5 hm)
      have B5 : Aside0 (Below w.heap.size w w5) := ⟨(pw_below_drewN HBW.out nq).trans (hm.below (base := w.heap.size) (fun k hk => by have := G4.out; omega) HBW.out.size)⟩
      have P5 := Aside0.mk hp
      have HNE := Aside0.mk N5
      have HLS := Aside0.mk (leftS_length l0 o n k)
      clear hp hm N5
      go_wp2_with (at_builtin; refine print_append_num (w0 := w) w.heap.size rfl (.tmp 39) (.tmp 41) 22 3 .i64 8 rfl Try.underlying22 info3 (by decide) _ (leftS l0 o n k).2 (wrap64 (rd l0 (t : Int) - pv)) rfl rfl O5.out B5.out B5.out.size (by have h1 := HLS.out; have h2 := HL.out; have h3 := HTL.out; have h4 := HT.out; omega) ?_; intro v1 w1 hown hB hG hat; have S1 := Aside0.mk hown; have S2 := Aside0.mk hB; have S3 := Aside0.mk (blk_grown P5.out.hg hG HNE.out); clear hown hB hG hat)
      go_roundg (l0.length - n - (k + 1) + 1)
      case measure => have := HQ.out; have := HTL.out; have := HT.out; omega
      case rel =>
        have e4 : (leftS l0 o n (k + 1)) = (learnF (wrap64 (rd l0 (t : Int) - pv)) (bef l0 t) (leftS l0 o n k).1 4, (leftS l0 o n k).2 ++ [wrap64 (rd l0 (t : Int) - pv)]) := by
          rw [leftS, HT.out, HPV.out]
        refine ⟨k + 1, by rw [e8, ← HT.out]; rfl, ⟨rfl⟩, ⟨by have := HTL.out; have := HT.out; omega⟩, ⟨by rw [e4]; exact ⟨f5, ⟨S3.out⟩, HF5.out⟩⟩, ⟨by rw [e4]; exact S1.out⟩, ⟨S2.out⟩⟩
end Go.Proofs.Ytdiemkeflmflaaa.QSound
