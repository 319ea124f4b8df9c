/- A lemma file: sound.Left. No condition. -/
import Derived.Test.YtdiemkeflmflaaaSC
import Derived.Test.YtdiemkeflmflaaaQSoundx2
import Derived.Test.YtdiemkeflmflaaaQSoundx3
namespace Go.Proofs.Ytdiemkeflmflaaa.QSound
open Go.RowKit Go.Proofs.YtdiemkeflmflaaaW.PrintWords Go.Proofs.YtdiemkeflmflaaaW.PrintLast Go.Proofs.YtdiemkeflmflaaaW.PrintMore Go.Proofs.YtdiemkeflmflaaaV
set_option linter.unusedVariables false
set_option linter.unusedSimpArgs false
def predF (o : Nat) (f b : Nat → Int) : Int := if o = 5 then sumA f b 4 / 2 ^ 10 else sumP o b o
def warmN (o n : Nat) : Nat := if o = 5 then 0 else min o n
def f0 : Nat → Int := fun j => if j = 0 then 1024 else 0
def leftS (l : List Int) (o n : Nat) : Nat → (Nat → Int) × List Int
  | 0 => (f0, [])
  | k + 1 => (learnF (wrap64 (rd l ((n + k : Nat) : Int) - predF o (leftS l o n k).1 (bef l (n + k)))) (bef l (n + k)) (leftS l o n k).1 4, (leftS l o n k).2 ++ [wrap64 (rd l ((n + k : Nat) : Int) - predF o (leftS l o n k).1 (bef l (n + k)))])
theorem leftS_length (l : List Int) (o n k : Nat) : (leftS l o n k).2.length = k := by
  induction k with
  | zero => rfl
  | succ k ih => simp [leftS, ih]
theorem bef_take {l : List Int} {t : Nat} (ht : t ≤ l.length) : bef (l.take t) (l.take t).length = bef l t := by
  funext k
  have e : (l.take t).length = t := by simp; omega
  unfold bef
  rw [e]
  by_cases h : k < t
  · rw [if_pos h, if_pos h]
    simp only [rd, Int.toNat_natCast, List.getD_eq_getElem?_getD]
    rw [List.getElem?_take_of_lt (by omega)]
  · rw [if_neg h, if_neg h]
theorem predict_calls {w : World} {g o : Nat} {f : Nat → Int} (ho : o ≤ 5) (h : IsP w g (o : Int) f) (A0 : Option Addr) (c0 : Nat) (l0 : List Int) (hr0 : Kd.C (Kd.int .i64) w A0 l0.length l0) (hc0 : l0.length ≤ c0) (hl : l0.length ≤ 4611686018427387904) (hb : ∀ x ∈ l0, -67108864 ≤ x ∧ x ≤ 67108864) :
    Calls Try.prog 65 #[.pointer (some ⟨g, 0, none⟩), .slice A0 l0.length c0] w fun e w' => e = .returned (.int .i64 (predF o f (bef l0 l0.length))) ∧ ∃ m, w' = w.drewN m := by
  unfold predF
  by_cases h5 : o = 5
  · subst h5
    rw [if_pos rfl]
    exact predict5_calls h A0 c0 l0 hr0 hc0 hl
  · rw [if_neg h5]
    exact predictO_calls (by omega) h A0 c0 l0 hr0 hc0 hl hb
theorem all_in {l : List Int} (h : l.any (out 67108864) = false) : ∀ x ∈ l, -67108864 ≤ x ∧ x ≤ 67108864 := by
  intro x hx
  have := List.any_eq_false.mp h x hx
  simp [out] at this
  omega
theorem IsP.of {w0 W : World} {g : Nat} {o : Int} (h : IsS142 w0 W g o 1024 0 0 0) : IsP W g o f0 := ⟨h.1⟩
theorem IsP.same {W W' : World} {g : Nat} {o : Int} {f : Nat → Int} (h : IsP W g o f) (e : W'.heap[g]? = W.heap[g]?) : IsP W' g o f := ⟨e.trans h.hg⟩
theorem own_moved {W W' : World} {base e g n : Nat} {v : Value} {xs : List Value} (h : W.ownsRow base e 1 v n xs) (hne : some g ≠ v.ownBlock) (hm : Moved W W' (fun k => k = g) (fun k => k = g)) : W'.ownsRow base e 1 v n xs := by
  obtain ⟨h1, h2⟩ := h
  refine ⟨h1, ?_⟩
  rcases h2 with h2 | ⟨r, cap, cur, rfl, hr, hh, rest⟩
  · exact .inl h2
  · exact .inr ⟨r, cap, cur, rfl, hr, (hm.block r (blk_lt hh) (fun e => hne (by rw [← e]; rfl))).trans hh, rest⟩
set_option maxRecDepth 100000 in
set_option maxHeartbeats 2000000 in
theorem left_ok {w : World} (o : Nat) (ho : o ≤ 5) (A0 : Option Addr) (c0 : Nat) (l0 : List Int) (hr0 : Kd.C (Kd.int .i64) w A0 l0.length l0) (hc0 : l0.length ≤ c0) (hb : l0.any (out 67108864) = false) (hl : l0.length ≤ 16384) :
    Calls Try.prog 20 #[.slice A0 l0.length c0, .int .i64 (o : Int)] w fun e w' => ∃ v0 v1, e = .returned (.tuple #[v0, v1, .int .i64 0]) ∧ Kd.R (Kd.int .i64) 3 w' w.heap.size (fun _ => True) v0 (l0.take (warmN o l0.length)) ∧ Kd.R (Kd.int .i64) 3 w' w.heap.size (fun _ => True) v1 (leftS l0 o (warmN o l0.length) (l0.length - warmN o l0.length)).2 ∧ Below w.heap.size w w' := by
  have info3 : (Try.prog.info? 3).map (fun i => (i.zero, i.size, i.bytes)) = some (some (.int .i64 0), 1, 8) := by kernel_rfl
  have HR := Aside0.mk hr0
  have HC := Aside0.mk hc0
  have HL := Aside0.mk hl
  have HO := Aside0.mk ho
  have HB := Aside0.mk hb
  have HN : Aside0 (warmN o l0.length ≤ l0.length) := ⟨by unfold warmN; split <;> omega⟩
  have HWF : Aside0 (sound_predictor_warm.f (o : Int) 1024 0 0 0 (l0.length : Int) = some (((warmN o l0.length : Nat) : Int), (o : Int), 1024, 0, 0, 0)) := ⟨by
    unfold sound_predictor_warm.f warmN
    by_cases h : o = 5
    · rw [if_pos (by omega), if_pos h]; rfl
    · rw [if_neg (by omega), if_neg h]
      congr 2
      unfold mn
      split <;> omega⟩
  have hlb : decide (16384 < (l0.length : Int)) = false := decide_eq_false (by omega)
  have hlb' : decide (16384 < l0.length) = false := decide_eq_false (by omega)
  have hi0 : (decide ((0 : Int) ≤ (o : Int)) && decide ((o : Int) ≤ 5)) = true := by simp; omega
  have HI0 := Aside0.mk hi0
  clear hr0 hc0 hl ho hb hi0
  generalize hn : warmN o l0.length = n at HN HWF ⊢
  clear hn
  go_enter Try.func20, Try.ntmps20
  go_wp2_with fail
  refine (sound_within.calls (o : Int) 0 5 true _ (by rw [within_f, HI0.out])).mono ?_
  rintro e w1 ⟨rfl, ⟨n1, rfl⟩⟩
  go_wp2_with fail
  refine (beyond_calls (w := w.drewN n1) (most := 67108864) (by omega) (by omega) A0 c0 l0 (Kd.C_drewN HR.out n1)).mono ?_
  rintro e w2 ⟨rfl, hbel⟩
  rw [HB.out]
  have B2 : Aside0 (Below w.heap.size w w2) := ⟨below_step (pw_below_drewN (Below.refl _ _) n1) hbel⟩
  clear hbel
  go_wp2_with fail
  refine (sound_newPredictor.calls (o : Int) (o : Int) 1024 0 0 0 w w2 B2.out rfl).mono ?_
  rintro e w3 ⟨g, rfl, hs, hb3, -⟩
  have S3 := Aside0.mk hs
  have B3 := Aside0.mk hb3
  clear hs hb3
  go_wp2_with fail
  refine (sound_predictor_warm.calls g (o : Int) 1024 0 0 0 (l0.length : Int) (n : Int) (o : Int) 1024 0 0 0 w w3 S3.out B3.out HWF.out).mono ?_
  rintro e w4 ⟨rfl, hs, hb4, -⟩
  have P4 : Aside0 (IsP w4 g (o : Int) f0) := ⟨IsP.of hs⟩
  have G4 : Aside0 (w.heap.size ≤ g) := ⟨hs.2⟩
  have B4 := Aside0.mk hb4
  clear hs hb4 S3 B3
  go_wp2_with fail
  go_loopg [5, 9] (l0.length - n + 1) (fun kq v5 v9 w' => ∃ (k : Nat), v9 = .int .i64 ((n + k : Nat) : Int) ∧ Aside0 (kq = l0.length - n - k + 1) ∧ Aside0 (n + k ≤ l0.length) ∧ Aside0 (IsP w' g (o : Int) (leftS l0 o n k).1) ∧ Aside0 (w'.ownsRow w.heap.size 3 1 v5 (leftS l0 o n k).2.length (nums .i64 (leftS l0 o n k).2)) ∧ Aside0 (Below w.heap.size w w'))
  case atStart => exact ⟨0, rfl, ⟨rfl⟩, ⟨HN.out⟩, ⟨P4.out⟩, ⟨own_nil _ _ _ _⟩, B4⟩
  case round =>
    obtain ⟨k, rfl, HQ, HK, HP, HO5, HBW⟩ := hrel
    obtain ⟨t, ht⟩ : ∃ t, n + k = t := ⟨_, rfl⟩
    rw [ht]
    have HT := Aside0.mk ht
    obtain ⟨i0, hi, hz0, hsz, _⟩ := info_parts info3
    by_cases hk : k = l0.length - n
    · have hx1 : decide ((t : Int) < (l0.length : Int)) = false := decide_eq_false (by have := HN.out; omega)
      have hx2 : decide (t < l0.length) = false := decide_eq_false (by have := HN.out; omega)
      have hcut := cut_to (P := Try.prog) 22 3 .i64 Try.underlying22 hi A0 l0.length c0 (n : Int) (by omega) (by have := HN.out; omega) HC.out
      have HRT0 := Kd.C_take (m := n) HR.out HN.out
      obtain ⟨lt, hlt⟩ : ∃ lt, l0.take n = lt := ⟨_, rfl⟩
      have ey : (n : Int).toNat = lt.length := by have := HN.out; rw [← hlt, List.length_take]; omega
      rw [ey] at hcut
      rw [hlt] at HRT0
      have HLT0 := Aside0.mk hlt
      have HRT := Aside0.mk HRT0
      have HCT : Aside0 (lt.length ≤ c0) := ⟨by have := HC.out; have := HN.out; rw [← hlt, List.length_take]; omega⟩
      have HCL : Aside0 (slices_Clone_int_int.f lt = some lt) := ⟨by unfold slices_Clone_int_int.f; rw [if_pos (by have := HL.out; rw [← hlt, List.length_take]; omega)]⟩
      clear hlt HRT0
      have HKE := Aside0.mk hk
      clear hk hi hz0 hsz ht ey
      go_wp2_with fail
      refine (slices_Clone_int_int.calls A0 c0 lt lt wr (Kd.C_below HRT.out HBW.out) HCT.out HCL.out).mono ?_
      rintro e w5 ⟨v0, rfl, hr5, hb5⟩
      have R5 := Aside0.mk hr5
      have B5 := Aside0.mk hb5
      clear hr5 hb5
      go_wp2_with fail
      go_ret3
      refine ⟨_, _, rfl, ?_, ?_, below_step HBW.out B5.out⟩
      · rw [HLT0.out]
        exact Kd.R_lower R5.out HBW.out.size
      · rw [← HKE.out]
        exact Kd.R_below (Kd.R_of_own (h1 := fun _ => rfl) (by simpa [encs, nums] using HO5.out) (fun _ _ => trivial)) B5.out
    · have hx1 : decide ((t : Int) < (l0.length : Int)) = true := decide_eq_true (by have := HN.out; have := HK.out; omega)
      have hx2 : decide (t < l0.length) = true := decide_eq_true (by have := HN.out; have := HK.out; omega)
      have hx3 : ((t : Int) < (l0.length : Int)) = True := eq_true (by have := HN.out; have := HK.out; omega)
      have hx4 : (t < l0.length) = True := eq_true (by have := HN.out; have := HK.out; omega)
      have HTL : Aside0 (t < l0.length) := ⟨by have := HN.out; have := HK.out; omega⟩
      have hrr := Kd.C_below HR.out HBW.out
      obtain ⟨ad, e0, x0⟩ := Kd.at_int hrr (t : Int) (by omega) (by have := HTL.out; omega)
      cases e0
      rw [Int.toNat_natCast] at x0
      have hcut := cut_to (P := Try.prog) 22 3 .i64 Try.underlying22 hi (some ad) l0.length c0 (t : Int) (by omega) (by have := HTL.out; omega) HC.out
      have HRT0 := Kd.C_take (m := t) HR.out (by have := HTL.out; omega)
      obtain ⟨lt, hlt⟩ : ∃ lt, l0.take t = lt := ⟨_, rfl⟩
      have ey : (t : Int).toNat = lt.length := by have := HTL.out; rw [← hlt, List.length_take]; omega
      rw [ey] at hcut
      rw [hlt] at HRT0
      have HLT0 := Aside0.mk hlt
      have HRT := Aside0.mk HRT0
      have HCT : Aside0 (lt.length ≤ c0) := ⟨by have := HC.out; rw [← hlt, List.length_take]; omega⟩
      have HLT : Aside0 (lt.length ≤ 4611686018427387904) := ⟨by have := HL.out; rw [← hlt, List.length_take]; omega⟩
      have HBE : Aside0 (bef lt lt.length = bef l0 t) := ⟨by rw [← hlt]; exact bef_take (by have := HTL.out; omega)⟩
      clear hlt HRT0
      have e8 : wrap64 ((t : Int) + 1) = ((t + 1 : Nat) : Int) := by have := HL.out; have := HTL.out; unfold wrap64; omega
      obtain ⟨pv, hpv⟩ : ∃ pv, predF o (leftS l0 o n k).1 (bef l0 t) = pv := ⟨_, rfl⟩
      have HPV := Aside0.mk hpv
      have HPR : Aside0 (∀ m, Calls Try.prog 65 #[.pointer (some ⟨g, 0, none⟩), .slice (some ad) lt.length c0] (wr.drewN m) fun e w' => e = .returned (.int .i64 pv) ∧ ∃ m', w' = (wr.drewN m).drewN m') := ⟨fun m => by
        rw [← HPV.out, ← HBE.out]
        exact predict_calls (w := wr.drewN m) HO.out (HP.out.same rfl) (some ad) c0 lt (Kd.C_drewN (Kd.C_below HRT.out HBW.out) m) HCT.out HLT.out (fun x hx => all_in HB.out x (List.mem_of_mem_take (by rw [HLT0.out]; exact hx)))⟩
      clear hk hi hz0 hsz ht ey hrr hpv
      go_wp2_with fail
      go_quiet (first | (go_at_call 65; exact Calls.quiet_of (HPR.out _)))
      have HRL : Aside0 (∀ w', Moved (wr.drewN nq) w' (fun k => k = g) (fun k => k = g) → Kd.C (Kd.int .i64) w' (some ad) lt.length lt) := ⟨fun w' hm =>
        Kd.C_below HRT.out ((pw_below_drewN HBW.out nq).trans (hm.below (base := w.heap.size) (fun k hk => by have := G4.out; omega) HBW.out.size))⟩
      go_wp2_with fail
      refine (learn_calls (w := wr.drewN nq) (HP.out.same rfl) (some ad) c0 lt HRL.out HCT.out HLT.out (wrap64 (rd l0 (t : Int) - pv))).mono ?_
      rintro e w5 ⟨rfl, hp, hm⟩
      have N5 := own_ne (pw_own_drewN HO5.out nq) (HP.out.same (W' := wr.drewN nq) rfl).hg (by decide)
      have O5 := Aside0.mk (own_moved (pw_own_drewN HO5.out nq) N5 hm)
      have B5 : Aside0 (Below w.heap.size w w5) := ⟨(pw_below_drewN HBW.out nq).trans (hm.below (base := w.heap.size) (fun k hk => by have := G4.out; omega) HBW.out.size)⟩
      have P5 := Aside0.mk hp
      have HNE := Aside0.mk N5
      have HLS := Aside0.mk (leftS_length l0 o n k)
      clear hp hm N5
      go_wp2_with (at_builtin; refine print_append_num (w0 := w) w.heap.size rfl (.tmp 50) (.tmp 52) 22 3 .i64 8 rfl Try.underlying22 info3 (by decide) _ (leftS l0 o n k).2 (wrap64 (rd l0 (t : Int) - pv)) rfl rfl O5.out B5.out B5.out.size (by have h1 := HLS.out; have h2 := HL.out; have h3 := HTL.out; have h4 := HT.out; omega) ?_; intro v1 w1 hown hB hG hat; have S1 := Aside0.mk hown; have S2 := Aside0.mk hB; have S3 := Aside0.mk (blk_grown P5.out.hg hG HNE.out); clear hown hB hG hat)
      go_roundg (l0.length - n - (k + 1) + 1)
      case measure => have := HQ.out; have := HTL.out; have := HT.out; omega
      case rel =>
        have e4 : (leftS l0 o n (k + 1)) = (learnF (wrap64 (rd l0 (t : Int) - pv)) (bef lt lt.length) (leftS l0 o n k).1 4, (leftS l0 o n k).2 ++ [wrap64 (rd l0 (t : Int) - pv)]) := by
          rw [leftS, HT.out, HPV.out, HBE.out]
        refine ⟨k + 1, by rw [e8, ← HT.out]; rfl, ⟨rfl⟩, ⟨by have := HTL.out; have := HT.out; omega⟩, ⟨by rw [e4]; exact ⟨S3.out⟩⟩, ⟨by rw [e4]; exact S1.out⟩, ⟨S2.out⟩⟩
def leftF (l : List Int) (o : Int) : List Int × List Int × Int :=
  if o < 0 ∨ 5 < o ∨ l.any (out 67108864) = true then ([], [], 1) else if 16384 < l.length then ([], [], 2)
  else (l.take (warmN o.toNat l.length), (leftS l o.toNat (warmN o.toNat l.length) (l.length - warmN o.toNat l.length)).2, 0)
set_option maxRecDepth 100000 in
set_option maxHeartbeats 2000000 in
theorem left_calls {w : World} (o : Int) (A0 : Option Addr) (c0 : Nat) (l0 : List Int) (hr0 : Kd.C (Kd.int .i64) w A0 l0.length l0) (hc0 : l0.length ≤ c0) :
    Calls Try.prog 20 #[.slice A0 l0.length c0, .int .i64 o] w fun e w' => ∃ v0 v1, e = .returned (.tuple #[v0, v1, .int .i64 (leftF l0 o).2.2]) ∧ Kd.R (Kd.int .i64) 3 w' w.heap.size (fun _ => True) v0 (leftF l0 o).1 ∧ Kd.R (Kd.int .i64) 3 w' w.heap.size (fun _ => True) v1 (leftF l0 o).2.1 ∧ Below w.heap.size w w' := by
  unfold leftF
  have HR := Aside0.mk hr0
  by_cases ho : 0 ≤ o ∧ o ≤ 5
  · by_cases hb : l0.any (out 67108864) = true
    · rw [if_pos (.inr (.inr hb))]
      have HB := Aside0.mk hb
      have HI0 : Aside0 ((decide ((0 : Int) ≤ o) && decide (o ≤ 5)) = true) := ⟨by simp; omega⟩
      clear hb ho hr0 hc0
      go_enter Try.func20, Try.ntmps20
      go_wp2_with fail
      refine (sound_within.calls o 0 5 true _ (by rw [within_f, HI0.out])).mono ?_
      rintro e w1 ⟨rfl, ⟨n1, rfl⟩⟩
      go_wp2_with fail
      refine (beyond_calls (w := w.drewN n1) (most := 67108864) (by omega) (by omega) A0 c0 l0 (Kd.C_drewN HR.out n1)).mono ?_
      rintro e w2 ⟨rfl, hbel⟩
      rw [HB.out]
      have B2 : Aside0 (Below w.heap.size w w2) := ⟨below_step (pw_below_drewN (Below.refl _ _) n1) hbel⟩
      clear hbel
      go_wp2_with fail
      go_ret3
      exact ⟨_, _, rfl, Kd.R_nil _ _ _ _ _, Kd.R_nil _ _ _ _ _, B2.out⟩
    · by_cases hl : 16384 < l0.length
      · rw [if_neg (by rintro (h | h | h) <;> first | omega | exact hb h), if_pos hl]
        have HB : Aside0 (l0.any (out 67108864) = false) := ⟨by simpa using hb⟩
        have HI0 : Aside0 ((decide ((0 : Int) ≤ o) && decide (o ≤ 5)) = true) := ⟨by simp; omega⟩
        have hlb : decide (16384 < (l0.length : Int)) = true := decide_eq_true (by omega)
        have hlb' : decide (16384 < l0.length) = true := decide_eq_true (by omega)
        clear hb ho hr0 hc0 hl
        go_enter Try.func20, Try.ntmps20
        go_wp2_with fail
        refine (sound_within.calls o 0 5 true _ (by rw [within_f, HI0.out])).mono ?_
        rintro e w1 ⟨rfl, ⟨n1, rfl⟩⟩
        go_wp2_with fail
        refine (beyond_calls (w := w.drewN n1) (most := 67108864) (by omega) (by omega) A0 c0 l0 (Kd.C_drewN HR.out n1)).mono ?_
        rintro e w2 ⟨rfl, hbel⟩
        rw [HB.out]
        have B2 : Aside0 (Below w.heap.size w w2) := ⟨below_step (pw_below_drewN (Below.refl _ _) n1) hbel⟩
        clear hbel
        go_wp2_with fail
        go_ret3
        exact ⟨_, _, rfl, Kd.R_nil _ _ _ _ _, Kd.R_nil _ _ _ _ _, B2.out⟩
      · rw [if_neg (by rintro (h | h | h) <;> first | omega | exact hb h), if_neg hl]
        have h := left_ok (w := w) o.toNat (by omega) A0 c0 l0 hr0 hc0 (by simpa using hb) (by omega)
        rw [Int.toNat_of_nonneg ho.1] at h
        exact h
  · rw [if_pos (by omega)]
    have HI0 : Aside0 ((decide ((0 : Int) ≤ o) && decide (o ≤ 5)) = false) := ⟨by simp; omega⟩
    clear ho hr0 hc0
    go_enter Try.func20, Try.ntmps20
    go_wp2_with fail
    refine (sound_within.calls o 0 5 false _ (by rw [within_f, HI0.out])).mono ?_
    rintro e w1 ⟨rfl, ⟨n1, rfl⟩⟩
    go_wp2_with fail
    go_ret3
    exact ⟨_, _, rfl, Kd.R_nil _ _ _ _ _, Kd.R_nil _ _ _ _ _, pw_below_drewN (Below.refl _ _) n1⟩
end Go.Proofs.Ytdiemkeflmflaaa.QSound
