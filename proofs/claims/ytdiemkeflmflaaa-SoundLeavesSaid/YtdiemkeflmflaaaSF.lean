/- A lemma file: the reference's predictor. No condition. -/
import Derived.Test.YtdiemkeflmflaaaSD
import Derived.Test.YtdiemkeflmflaaaQSoundx4
import Derived.Test.YtdiemkeflmflaaaQSoundx4
import Derived.Test.YtdiemkeflmflaaaQSoundx4
namespace Go.Proofs.Ytdiemkeflmflaaa.QSound
open Go.RowKit Go.Proofs.YtdiemkeflmflaaaW.PrintWords Go.Proofs.YtdiemkeflmflaaaW.PrintLast Go.Proofs.YtdiemkeflmflaaaW.PrintMore Go.Proofs.YtdiemkeflmflaaaV
set_option linter.unusedVariables false
set_option linter.unusedSimpArgs false
theorem rbefore_f (l : List Int) (t k : Nat) (ht : t ≤ l.length) (hl : l.length ≤ 4611686018427387904) (hk : k ≤ 4) : dioramaref16_before.f l (t : Int) ((k : Int) + 1) = some (bef l t k) := by
  unfold dioramaref16_before.f bef
  have e1 : wrap64 ((t : Int) - ((k : Int) + 1)) = (t : Int) - ((k : Int) + 1) := by unfold wrap64; omega
  simp only [e1]
  by_cases h : k < t
  · have e2 : ((t - 1 - k : Nat) : Int) = (t : Int) - ((k : Int) + 1) := by omega
    rw [if_neg (by omega), if_pos h, if_pos (by omega), if_pos (by omega), e2]
  · rw [if_pos (by omega), if_neg h]
theorem down_f (v : Int) (h1 : -9223372036854775808 ≤ v) (h2 : v ≤ 9223372036854775807) : dioramaref16_down.f v 1024 = some (v / 2 ^ 10) := by
  unfold dioramaref16_down.f
  rw [if_neg (by decide), show ((2 : Int) ^ 10) = 1024 from rfl]
  by_cases hv : 0 ≤ v
  · have e1 : Int.tmod v 1024 = v % 1024 := Int.tmod_eq_emod_of_nonneg hv
    have e2 : Int.tdiv v 1024 = v / 1024 := Int.tdiv_eq_ediv_of_nonneg hv
    rw [e1, e2, if_neg (by omega)]
    congr 1
    unfold wrap64; omega
  · obtain ⟨u, rfl⟩ : ∃ u, v = -u := ⟨-v, by omega⟩
    have e1 : Int.tmod (-u) 1024 = -(u % 1024) := by rw [Int.neg_tmod, Int.tmod_eq_emod_of_nonneg (by omega)]
    have e2 : Int.tdiv (-u) 1024 = -(u / 1024) := by rw [Int.neg_tdiv, Int.tdiv_eq_ediv_of_nonneg (by omega)]
    rw [e1, e2]
    have w1 : wrap64 (-(u / 1024)) = -(u / 1024) := by unfold wrap64; omega
    rw [w1]
    split
    · congr 1
      unfold wrap64; omega
    · congr 1
      omega
structure IsX (W : World) (g : Nat) (o : Int) (f : Nat → Int) : Prop where
  hg : W.heap[g]? = some (.cells #[.int .i64 o, .int .i64 (f 0), .int .i64 (f 1), .int .i64 (f 2), .int .i64 (f 3)] 144 (0, 0))
theorem n1 (f b : Nat → Int) : predF 1 f b = b 0 := by simp [predF, sumP, bin]
theorem n2 (f b : Nat → Int) (hb : ∀ k, -67108864 ≤ b k ∧ b k ≤ 67108864) : wrap64 (wrap64 (2 * b 0) - b 1) = predF 2 f b := by
  have e : predF 2 f b = 2 * b 0 - b 1 := by simp [predF, sumP, bin]
  have := hb 0; have := hb 1
  rw [e]; unfold wrap64; omega
theorem n3 (f b : Nat → Int) (hb : ∀ k, -67108864 ≤ b k ∧ b k ≤ 67108864) : wrap64 (wrap64 (wrap64 (3 * b 0) - wrap64 (3 * b 1)) + b 2) = predF 3 f b := by
  have e : predF 3 f b = 3 * b 0 - 3 * b 1 + b 2 := by simp [predF, sumP, bin]
  have := hb 0; have := hb 1; have := hb 2
  rw [e]; unfold wrap64; omega
theorem n4 (f b : Nat → Int) (hb : ∀ k, -67108864 ≤ b k ∧ b k ≤ 67108864) : wrap64 (wrap64 (wrap64 (wrap64 (4 * b 0) - wrap64 (6 * b 1)) + wrap64 (4 * b 2)) - b 3) = predF 4 f b := by
  have e : predF 4 f b = 4 * b 0 - 6 * b 1 + 4 * b 2 - b 3 := by simp [predF, sumP, bin]
  have := hb 0; have := hb 1; have := hb 2; have := hb 3
  rw [e]; unfold wrap64; omega
theorem n5 (f b : Nat → Int) : wrap64 (wrap64 (wrap64 (wrap64 (f 0 * b 0) + wrap64 (f 1 * b 1)) + wrap64 (f 2 * b 2)) + wrap64 (f 3 * b 3)) = sumA f b 4 := by
  have e : wrap64 (0 + wrap64 (f 0 * b 0)) = wrap64 (f 0 * b 0) := by unfold wrap64; omega
  simp only [sumA, e]
theorem sumA_le (f b : Nat → Int) : -9223372036854775808 ≤ sumA f b 4 ∧ sumA f b 4 ≤ 9223372036854775807 := by
  rw [← n5]; unfold wrap64; omega
set_option maxRecDepth 100000 in
set_option maxHeartbeats 2000000 in
theorem next_calls {w : World} {g o : Nat} {f : Nat → Int} (ho : o ≤ 5) (h : IsX w g (o : Int) f) (A0 : Option Addr) (c0 : Nat) (l0 : List Int) (hr0 : Kd.C (Kd.int .i64) w A0 l0.length l0) (hc0 : l0.length ≤ c0) (t : Nat) (ht : t ≤ l0.length) (hl : l0.length ≤ 4611686018427387904) (hb : ∀ x ∈ l0, -67108864 ≤ x ∧ x ≤ 67108864) :
    Calls Try.prog 72 #[.pointer (some ⟨g, 0, none⟩), .slice A0 l0.length c0, .int .i64 (t : Int)] w fun e w' => e = .returned (.int .i64 (predF o f (bef l0 t))) ∧ ∃ m, w' = w.drewN m := by
  have HR := Aside0.mk hr0
  have HC := Aside0.mk hc0
  have HK0 := Aside0.mk (rbefore_f l0 t 0 ht hl (by omega))
  have HK1 := Aside0.mk (rbefore_f l0 t 1 ht hl (by omega))
  have HK2 := Aside0.mk (rbefore_f l0 t 2 ht hl (by omega))
  have HK3 := Aside0.mk (rbefore_f l0 t 3 ht hl (by omega))
  have HBE := Aside0.mk (fun k => bef_le (M := 67108864) (by omega) hb t k ht)
  clear hr0 hc0 hl hb ht
  have c : o = 0 ∨ o = 1 ∨ o = 2 ∨ o = 3 ∨ o = 4 ∨ o = 5 := by omega
  clear ho
  rcases c with rfl | rfl | rfl | rfl | rfl | rfl
  · have c0' : w.cell? ⟨g, 0, none⟩ = some (.int .i64 0) := (blk_cell h.hg 0).trans rfl
    clear h
    go_enter Try.func72, Try.ntmps72
    go_wp2_with fail
    refine (dioramaref16_before.still A0 c0 l0 (t : Int) 1 (bef l0 t 0) _ HR.out HC.out HK0.out).mono ?_
    rintro e w1 ⟨rfl, rfl⟩
    go_wp2_with fail
    refine (dioramaref16_before.still A0 c0 l0 (t : Int) 2 (bef l0 t 1) _ HR.out HC.out HK1.out).mono ?_
    rintro e w2 ⟨rfl, rfl⟩
    go_wp2_with fail
    refine (dioramaref16_before.still A0 c0 l0 (t : Int) 3 (bef l0 t 2) _ HR.out HC.out HK2.out).mono ?_
    rintro e w3 ⟨rfl, rfl⟩
    go_wp2_with fail
    refine (dioramaref16_before.still A0 c0 l0 (t : Int) 4 (bef l0 t 3) _ HR.out HC.out HK3.out).mono ?_
    rintro e w4 ⟨rfl, rfl⟩
    go_wp2_with fail
    go_ret
    exact ⟨by first | rfl | (simp [predF, sumP]), 0, rfl⟩
  · have c0' : w.cell? ⟨g, 0, none⟩ = some (.int .i64 1) := (blk_cell h.hg 0).trans rfl
    clear h
    go_enter Try.func72, Try.ntmps72
    go_wp2_with fail
    refine (dioramaref16_before.still A0 c0 l0 (t : Int) 1 (bef l0 t 0) _ HR.out HC.out HK0.out).mono ?_
    rintro e w1 ⟨rfl, rfl⟩
    go_wp2_with fail
    refine (dioramaref16_before.still A0 c0 l0 (t : Int) 2 (bef l0 t 1) _ HR.out HC.out HK1.out).mono ?_
    rintro e w2 ⟨rfl, rfl⟩
    go_wp2_with fail
    refine (dioramaref16_before.still A0 c0 l0 (t : Int) 3 (bef l0 t 2) _ HR.out HC.out HK2.out).mono ?_
    rintro e w3 ⟨rfl, rfl⟩
    go_wp2_with fail
    refine (dioramaref16_before.still A0 c0 l0 (t : Int) 4 (bef l0 t 3) _ HR.out HC.out HK3.out).mono ?_
    rintro e w4 ⟨rfl, rfl⟩
    go_wp2_with fail
    go_ret
    exact ⟨by rw [n1]; rfl, 0, rfl⟩
  · have c0' : w.cell? ⟨g, 0, none⟩ = some (.int .i64 2) := (blk_cell h.hg 0).trans rfl
    clear h
    go_enter Try.func72, Try.ntmps72
    go_wp2_with fail
    refine (dioramaref16_before.still A0 c0 l0 (t : Int) 1 (bef l0 t 0) _ HR.out HC.out HK0.out).mono ?_
    rintro e w1 ⟨rfl, rfl⟩
    go_wp2_with fail
    refine (dioramaref16_before.still A0 c0 l0 (t : Int) 2 (bef l0 t 1) _ HR.out HC.out HK1.out).mono ?_
    rintro e w2 ⟨rfl, rfl⟩
    go_wp2_with fail
    refine (dioramaref16_before.still A0 c0 l0 (t : Int) 3 (bef l0 t 2) _ HR.out HC.out HK2.out).mono ?_
    rintro e w3 ⟨rfl, rfl⟩
    go_wp2_with fail
    refine (dioramaref16_before.still A0 c0 l0 (t : Int) 4 (bef l0 t 3) _ HR.out HC.out HK3.out).mono ?_
    rintro e w4 ⟨rfl, rfl⟩
    go_wp2_with fail
    go_ret
    exact ⟨by first | rfl | (rw [← n2 f _ HBE.out]; rfl), 0, rfl⟩
  · have c0' : w.cell? ⟨g, 0, none⟩ = some (.int .i64 3) := (blk_cell h.hg 0).trans rfl
    clear h
    go_enter Try.func72, Try.ntmps72
    go_wp2_with fail
    refine (dioramaref16_before.still A0 c0 l0 (t : Int) 1 (bef l0 t 0) _ HR.out HC.out HK0.out).mono ?_
    rintro e w1 ⟨rfl, rfl⟩
    go_wp2_with fail
    refine (dioramaref16_before.still A0 c0 l0 (t : Int) 2 (bef l0 t 1) _ HR.out HC.out HK1.out).mono ?_
    rintro e w2 ⟨rfl, rfl⟩
    go_wp2_with fail
    refine (dioramaref16_before.still A0 c0 l0 (t : Int) 3 (bef l0 t 2) _ HR.out HC.out HK2.out).mono ?_
    rintro e w3 ⟨rfl, rfl⟩
    go_wp2_with fail
    refine (dioramaref16_before.still A0 c0 l0 (t : Int) 4 (bef l0 t 3) _ HR.out HC.out HK3.out).mono ?_
    rintro e w4 ⟨rfl, rfl⟩
    go_wp2_with fail
    go_ret
    exact ⟨by first | rfl | (rw [← n3 f _ HBE.out]; rfl), 0, rfl⟩
  · have c0' : w.cell? ⟨g, 0, none⟩ = some (.int .i64 4) := (blk_cell h.hg 0).trans rfl
    clear h
    go_enter Try.func72, Try.ntmps72
    go_wp2_with fail
    refine (dioramaref16_before.still A0 c0 l0 (t : Int) 1 (bef l0 t 0) _ HR.out HC.out HK0.out).mono ?_
    rintro e w1 ⟨rfl, rfl⟩
    go_wp2_with fail
    refine (dioramaref16_before.still A0 c0 l0 (t : Int) 2 (bef l0 t 1) _ HR.out HC.out HK1.out).mono ?_
    rintro e w2 ⟨rfl, rfl⟩
    go_wp2_with fail
    refine (dioramaref16_before.still A0 c0 l0 (t : Int) 3 (bef l0 t 2) _ HR.out HC.out HK2.out).mono ?_
    rintro e w3 ⟨rfl, rfl⟩
    go_wp2_with fail
    refine (dioramaref16_before.still A0 c0 l0 (t : Int) 4 (bef l0 t 3) _ HR.out HC.out HK3.out).mono ?_
    rintro e w4 ⟨rfl, rfl⟩
    go_wp2_with fail
    go_ret
    exact ⟨by first | rfl | (rw [← n4 f _ HBE.out]; rfl), 0, rfl⟩
  · have c0' : w.cell? ⟨g, 0, none⟩ = some (.int .i64 5) := (blk_cell h.hg 0).trans rfl
    have c1' : w.cell? ⟨g, 1, none⟩ = some (.int .i64 (f 0)) := (blk_cell h.hg 1).trans rfl
    have c2' : w.cell? ⟨g, 2, none⟩ = some (.int .i64 (f 1)) := (blk_cell h.hg 2).trans rfl
    have c3' : w.cell? ⟨g, 3, none⟩ = some (.int .i64 (f 2)) := (blk_cell h.hg 3).trans rfl
    have c4' : w.cell? ⟨g, 4, none⟩ = some (.int .i64 (f 3)) := (blk_cell h.hg 4).trans rfl
    obtain ⟨sv, hsv⟩ : ∃ sv, wrap64 (wrap64 (wrap64 (wrap64 (f 0 * bef l0 t 0) + wrap64 (f 1 * bef l0 t 1)) + wrap64 (f 2 * bef l0 t 2)) + wrap64 (f 3 * bef l0 t 3)) = sv := ⟨_, rfl⟩
    have hs9 : predF 5 f (bef l0 t) = sv / 2 ^ 10 := by rw [← hsv, n5]; rfl
    have hs8 : sumA f (bef l0 t) 4 = sv := by rw [← hsv, n5]
    have hsl := sumA_le f (bef l0 t)
    rw [hs8] at hsl
    rw [hs9]
    have HD := Aside0.mk (down_f sv hsl.1 hsl.2)
    clear hs9 hs8 hsl
    generalize sv / 2 ^ 10 = rv at HD ⊢
    clear h
    go_enter Try.func72, Try.ntmps72
    go_wp2_with fail
    refine (dioramaref16_before.still A0 c0 l0 (t : Int) 1 (bef l0 t 0) _ HR.out HC.out HK0.out).mono ?_
    rintro e w1 ⟨rfl, rfl⟩
    go_wp2_with fail
    refine (dioramaref16_before.still A0 c0 l0 (t : Int) 2 (bef l0 t 1) _ HR.out HC.out HK1.out).mono ?_
    rintro e w2 ⟨rfl, rfl⟩
    go_wp2_with fail
    refine (dioramaref16_before.still A0 c0 l0 (t : Int) 3 (bef l0 t 2) _ HR.out HC.out HK2.out).mono ?_
    rintro e w3 ⟨rfl, rfl⟩
    go_wp2_with fail
    refine (dioramaref16_before.still A0 c0 l0 (t : Int) 4 (bef l0 t 3) _ HR.out HC.out HK3.out).mono ?_
    rintro e w4 ⟨rfl, rfl⟩
    go_wp2_with fail
    go_quiet (first | (go_at_call 122; exact Calls.quiet_of ((dioramaref16_down.calls sv 1024 rv _ HD.out).mono (fun e w' h => ⟨h.1, h.2.out⟩))))
    go_wp2_with fail
    go_ret
    exact ⟨rfl, nq, rfl⟩
end Go.Proofs.Ytdiemkeflmflaaa.QSound
