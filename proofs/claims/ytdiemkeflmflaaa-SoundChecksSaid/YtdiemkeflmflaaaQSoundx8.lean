/- Part of a proof: functions of the program as Lean functions, and that the machine's calls come to them. Made by a program of this session (wip/mp). -/
import Derived.Test.YtdiemkeflmflaaaQSoundx0
import Derived.Test.YtdiemkeflmflaaaQSoundx2
import Derived.Test.YtdiemkeflmflaaaQSoundx4
import Derived.Test.YtdiemkeflmflaaaQSoundx5
import Derived.Test.YtdiemkeflmflaaaQSoundx6
import Derived.Test.YtdiemkeflmflaaaQSoundx7
namespace Go.Proofs.Ytdiemkeflmflaaa.QSound
open Go.RowKit Go.Proofs.YtdiemkeflmflaaaV Go.Proofs.YtdiemkeflmflaaaW.PrintWords Go.Proofs.YtdiemkeflmflaaaW.PrintLast Go.Proofs.YtdiemkeflmflaaaW.PrintMore
attribute [local go_sem] max2_int min2_int max_two min_two max_three min_three max_four min_four   -- for this text's walks alone
set_option linter.unusedVariables false
set_option linter.unusedSimpArgs false

/-! ### dioramaref16_left: function 69 -/
section
set_option maxHeartbeats 8000000 in
set_option maxRecDepth 100000 in
theorem dioramaref16_before.still (A0 : Option Addr) (c0 : Nat) (l0 : List Int) (a1 : Int) (a2 : Int) (r : Int) (w : World) (hr0 : Kd.C (Kd.int .i64) w A0 l0.length l0) (hc0 : l0.length ≤ c0) (h : dioramaref16_before.f l0 a1 a2 = some r) :
    Calls Try.prog 121 #[.slice A0 l0.length c0, .int .i64 a1, .int .i64 a2] w fun e w' => e = .returned (.int .i64 r) ∧ w' = w := by
  have HR0 := Aside0.mk hr0
  have HC0 := Aside0.mk hc0
  clear hr0 hc0
  have H : (if (wrap64 (a1 - a2)) < 0 then (some 0) else (if 0 ≤ (wrap64 (a1 - a2)) then (if (wrap64 (a1 - a2)) < (l0.length : Int) then (some (rd l0 (wrap64 (a1 - a2)))) else (none)) else (none))) = some r := h
  clear h
  by_cases c4 : (wrap64 (a1 - a2)) < 0
  · rw [if_pos c4] at H
    have c4b0 : decide ((wrap64 (a1 - a2)) < 0) = true := decide_eq_true c4
    clear c4
    obtain rfl := Option.some.inj H
    go_enter Try.func121, Try.ntmps121
    go_wp2
    go_ret
    exact ⟨by first | rfl | (simp; done) | (simp [*]; done), rfl⟩
  · rw [if_neg c4] at H
    have c4b0 : decide ((wrap64 (a1 - a2)) < 0) = false := decide_eq_false c4
    clear c4
    obtain ⟨ji5, hji5⟩ : ∃ j_ : Int, (wrap64 (a1 - a2)) = j_ := ⟨_, rfl⟩
    replace H : (if 0 ≤ (ji5) then (if (ji5) < (l0.length : Int) then (some (rd l0 (ji5))) else (none)) else (none)) = some r := by first | (rw [hji5] at H; exact H) | (simp only [hji5] at H ⊢; exact H)
    (try rw [hji5] at c4b0)
    have hji5w : (IntKind.i64.wrap (a1 - a2)) = ji5 := (i64_w _).trans hji5
    by_cases c6 : 0 ≤ (ji5)
    · rw [if_pos c6] at H
      have c6b0 : decide (0 ≤ (ji5)) = true := decide_eq_true c6
      clear c6
      by_cases c7 : (ji5) < (l0.length : Int)
      · rw [if_pos c7] at H
        have c7b0 : decide ((ji5) < (l0.length : Int)) = true := decide_eq_true c7
        clear c7
        obtain rfl := Option.some.inj H
        have p120 : 0 ≤ ((ji5) : Int) := of_decide_eq_true (by first | (with_reducible assumption) | assumption)
        have q120 : (ji5) < (l0.length : Int) := of_decide_eq_true (by first | (with_reducible assumption) | assumption)
        obtain ⟨ad120, e120, hx120_0⟩ := Kd.at_int HR0.out (ji5) p120 q120
        cases e120
        replace p120 := eq_true p120
        replace q120 := eq_true q120
        go_enter Try.func121, Try.ntmps121
        go_wp2
        go_ret
        exact ⟨by first | rfl | (simp; done) | (simp only [← hji5] <;> (first | rfl | simp)) | (simp [*]; done), rfl⟩
      · rw [if_neg c7] at H
        exact absurd H (by simp)
    · rw [if_neg c6] at H
      exact absurd H (by simp)
set_option maxHeartbeats 8000000 in
set_option maxRecDepth 100000 in
theorem dioramaref16_sign.still (a0 : Int) (r : Int) (w : World) (h : dioramaref16_sign.f a0 = some r) :
    Calls Try.prog 123 #[.int .i64 a0] w fun e w' => e = .returned (.int .i64 r) ∧ Below w.heap.size w w' := by
  have HB := Aside0.mk (Below.refl w.heap.size w)
  have H : (if a0 < 0 then (some (-1)) else (some (mn a0 1))) = some r := h
  clear h
  by_cases c2 : a0 < 0
  · rw [if_pos c2] at H
    have c2b0 : decide (a0 < 0) = true := decide_eq_true c2
    clear c2
    obtain rfl := Option.some.inj H
    go_enter Try.func123, Try.ntmps123
    go_wp2
    go_ret
    exact ⟨by first | rfl | (simp [errW_none, errW_some] <;> rfl) | (simp [*, errW_none, errW_some] <;> rfl), by repeat (first | (with_reducible first | exact HB.out | apply below_alloc | apply pw_below_drewN | apply below_drew1) | exact HB.out)⟩
  · rw [if_neg c2] at H
    have c2b0 : decide (a0 < 0) = false := decide_eq_false c2
    clear c2
    obtain ⟨ji3, hji3⟩ : ∃ j_ : Int, (mn a0 1) = j_ := ⟨_, rfl⟩
    replace H : (some ji3) = some r := by first | (rw [hji3] at H; exact H) | (simp only [hji3] at H ⊢; exact H)
    (try (have hji3h : ji3 ≤ 1 := by (rw [← hji3]; unfold mn; (repeat' split) <;> omega)))
    (try (have hji3g : ji3 ≤ 64 := by omega))
    have hji3_ : (if 1 < a0 then 1 else a0) = ji3 := hji3
    obtain rfl := Option.some.inj H
    go_enter Try.func123, Try.ntmps123
    go_wp2
    go_ret
    exact ⟨by first | rfl | (simp [errW_none, errW_some] <;> rfl) | (simp only [← hji3]; first | rfl | (simp [errW_none, errW_some] <;> rfl)) | (simp [*, errW_none, errW_some] <;> rfl), by repeat (first | (with_reducible first | exact HB.out | apply below_alloc | apply pw_below_drewN | apply below_drew1) | exact HB.out)⟩
end
theorem rbefore_f (l : List Int) (t k : Nat) (ht : t ≤ l.length) (hl : l.length ≤ 4611686018427387904) (hk : k ≤ 4) : dioramaref16_before.f l (t : Int) ((k : Int) + 1) = some (bef l t k) := by
  unfold dioramaref16_before.f bef
  have e1 : wrap64 ((t : Int) - ((k : Int) + 1)) = (t : Int) - ((k : Int) + 1) := by unfold wrap64; omega
  simp only [e1]
  by_cases h : k < t
  · have e2 : ((t - 1 - k : Nat) : Int) = (t : Int) - ((k : Int) + 1) := by omega
    rw [if_neg (by omega), if_pos h, if_pos (by omega), if_pos (by omega), e2]
  · rw [if_pos (by omega), if_neg h]
theorem down_f (v : Int) (h1 : -9223372036854775808 ≤ v) (h2 : v ≤ 9223372036854775807) : dioramaref16_down.f v 1024 = some (v / 2 ^ 10) := by
  unfold dioramaref16_down.f
  rw [if_neg (by decide), show ((2 : Int) ^ 10) = 1024 from rfl]
  by_cases hv : 0 ≤ v
  · have e1 : Int.tmod v 1024 = v % 1024 := Int.tmod_eq_emod_of_nonneg hv
    have e2 : Int.tdiv v 1024 = v / 1024 := Int.tdiv_eq_ediv_of_nonneg hv
    rw [e1, e2, if_neg (by omega)]
    congr 1
    unfold wrap64; omega
  · obtain ⟨u, rfl⟩ : ∃ u, v = -u := ⟨-v, by omega⟩
    have e1 : Int.tmod (-u) 1024 = -(u % 1024) := by rw [Int.neg_tmod, Int.tmod_eq_emod_of_nonneg (by omega)]
    have e2 : Int.tdiv (-u) 1024 = -(u / 1024) := by rw [Int.neg_tdiv, Int.tdiv_eq_ediv_of_nonneg (by omega)]
    rw [e1, e2]
    have w1 : wrap64 (-(u / 1024)) = -(u / 1024) := by unfold wrap64; omega
    rw [w1]
    split
    · congr 1
      unfold wrap64; omega
    · congr 1
      omega
structure IsX (W : World) (g : Nat) (o : Int) (f : Nat → Int) : Prop where
  hg : W.heap[g]? = some (.cells #[.int .i64 o, .int .i64 (f 0), .int .i64 (f 1), .int .i64 (f 2), .int .i64 (f 3)] 144 (0, 0))
theorem n1 (f b : Nat → Int) : predF 1 f b = b 0 := by simp [predF, sumP, bin]
theorem n2 (f b : Nat → Int) (hb : ∀ k, -67108864 ≤ b k ∧ b k ≤ 67108864) : wrap64 (wrap64 (2 * b 0) - b 1) = predF 2 f b := by
  have e : predF 2 f b = 2 * b 0 - b 1 := by simp [predF, sumP, bin]
  have := hb 0; have := hb 1
  rw [e]; unfold wrap64; omega
theorem n3 (f b : Nat → Int) (hb : ∀ k, -67108864 ≤ b k ∧ b k ≤ 67108864) : wrap64 (wrap64 (wrap64 (3 * b 0) - wrap64 (3 * b 1)) + b 2) = predF 3 f b := by
  have e : predF 3 f b = 3 * b 0 - 3 * b 1 + b 2 := by simp [predF, sumP, bin]
  have := hb 0; have := hb 1; have := hb 2
  rw [e]; unfold wrap64; omega
theorem n4 (f b : Nat → Int) (hb : ∀ k, -67108864 ≤ b k ∧ b k ≤ 67108864) : wrap64 (wrap64 (wrap64 (wrap64 (4 * b 0) - wrap64 (6 * b 1)) + wrap64 (4 * b 2)) - b 3) = predF 4 f b := by
  have e : predF 4 f b = 4 * b 0 - 6 * b 1 + 4 * b 2 - b 3 := by simp [predF, sumP, bin]
  have := hb 0; have := hb 1; have := hb 2; have := hb 3
  rw [e]; unfold wrap64; omega
theorem n5 (f b : Nat → Int) : wrap64 (wrap64 (wrap64 (wrap64 (f 0 * b 0) + wrap64 (f 1 * b 1)) + wrap64 (f 2 * b 2)) + wrap64 (f 3 * b 3)) = sumA f b 4 := by
  have e : wrap64 (0 + wrap64 (f 0 * b 0)) = wrap64 (f 0 * b 0) := by unfold wrap64; omega
  simp only [sumA, e]
theorem sumA_le (f b : Nat → Int) : -9223372036854775808 ≤ sumA f b 4 ∧ sumA f b 4 ≤ 9223372036854775807 := by
  rw [← n5]; unfold wrap64; omega
set_option maxRecDepth 100000 in
set_option maxHeartbeats 2000000 in
theorem next_calls {w : World} {g o : Nat} {f : Nat → Int} (ho : o ≤ 5) (h : IsX w g (o : Int) f) (A0 : Option Addr) (c0 : Nat) (l0 : List Int) (hr0 : Kd.C (Kd.int .i64) w A0 l0.length l0) (hc0 : l0.length ≤ c0) (t : Nat) (ht : t ≤ l0.length) (hl : l0.length ≤ 4611686018427387904) (hb : ∀ x ∈ l0, -67108864 ≤ x ∧ x ≤ 67108864) :
    Calls Try.prog 72 #[.pointer (some ⟨g, 0, none⟩), .slice A0 l0.length c0, .int .i64 (t : Int)] w fun e w' => e = .returned (.int .i64 (predF o f (bef l0 t))) ∧ ∃ m, w' = w.drewN m := by
  have HR := Aside0.mk hr0
  have HC := Aside0.mk hc0
  have HK0 := Aside0.mk (rbefore_f l0 t 0 ht hl (by omega))
  have HK1 := Aside0.mk (rbefore_f l0 t 1 ht hl (by omega))
  have HK2 := Aside0.mk (rbefore_f l0 t 2 ht hl (by omega))
  have HK3 := Aside0.mk (rbefore_f l0 t 3 ht hl (by omega))
  have HBE := Aside0.mk (fun k => bef_le (M := 67108864) (by omega) hb t k ht)
  clear hr0 hc0 hl hb ht
  have c : o = 0 ∨ o = 1 ∨ o = 2 ∨ o = 3 ∨ o = 4 ∨ o = 5 := by omega
  clear ho
  rcases c with rfl | rfl | rfl | rfl | rfl | rfl
  · have c0' : w.cell? ⟨g, 0, none⟩ = some (.int .i64 0) := (blk_cell h.hg 0).trans rfl
    clear h
    go_enter Try.func72, Try.ntmps72
    go_wp2_with fail
    refine (dioramaref16_before.still A0 c0 l0 (t : Int) 1 (bef l0 t 0) _ HR.out HC.out HK0.out).mono ?_
    rintro e w1 ⟨rfl, rfl⟩
    go_wp2_with fail
    refine (dioramaref16_before.still A0 c0 l0 (t : Int) 2 (bef l0 t 1) _ HR.out HC.out HK1.out).mono ?_
    rintro e w2 ⟨rfl, rfl⟩
    go_wp2_with fail
    refine (dioramaref16_before.still A0 c0 l0 (t : Int) 3 (bef l0 t 2) _ HR.out HC.out HK2.out).mono ?_
    rintro e w3 ⟨rfl, rfl⟩
    go_wp2_with fail
    refine (dioramaref16_before.still A0 c0 l0 (t : Int) 4 (bef l0 t 3) _ HR.out HC.out HK3.out).mono ?_
    rintro e w4 ⟨rfl, rfl⟩
    go_wp2_with fail
    go_ret
    exact ⟨by first | rfl | (simp [predF, sumP]), 0, rfl⟩
  · have c0' : w.cell? ⟨g, 0, none⟩ = some (.int .i64 1) := (blk_cell h.hg 0).trans rfl
    clear h
    go_enter Try.func72, Try.ntmps72
    go_wp2_with fail
    refine (dioramaref16_before.still A0 c0 l0 (t : Int) 1 (bef l0 t 0) _ HR.out HC.out HK0.out).mono ?_
    rintro e w1 ⟨rfl, rfl⟩
    go_wp2_with fail
    refine (dioramaref16_before.still A0 c0 l0 (t : Int) 2 (bef l0 t 1) _ HR.out HC.out HK1.out).mono ?_
    rintro e w2 ⟨rfl, rfl⟩
    go_wp2_with fail
    refine (dioramaref16_before.still A0 c0 l0 (t : Int) 3 (bef l0 t 2) _ HR.out HC.out HK2.out).mono ?_
    rintro e w3 ⟨rfl, rfl⟩
    go_wp2_with fail
    refine (dioramaref16_before.still A0 c0 l0 (t : Int) 4 (bef l0 t 3) _ HR.out HC.out HK3.out).mono ?_
    rintro e w4 ⟨rfl, rfl⟩
    go_wp2_with fail
    go_ret
    exact ⟨by rw [n1]; rfl, 0, rfl⟩
  · have c0' : w.cell? ⟨g, 0, none⟩ = some (.int .i64 2) := (blk_cell h.hg 0).trans rfl
    clear h
    go_enter Try.func72, Try.ntmps72
    go_wp2_with fail
    refine (dioramaref16_before.still A0 c0 l0 (t : Int) 1 (bef l0 t 0) _ HR.out HC.out HK0.out).mono ?_
    rintro e w1 ⟨rfl, rfl⟩
    go_wp2_with fail
    refine (dioramaref16_before.still A0 c0 l0 (t : Int) 2 (bef l0 t 1) _ HR.out HC.out HK1.out).mono ?_
    rintro e w2 ⟨rfl, rfl⟩
    go_wp2_with fail
    refine (dioramaref16_before.still A0 c0 l0 (t : Int) 3 (bef l0 t 2) _ HR.out HC.out HK2.out).mono ?_
    rintro e w3 ⟨rfl, rfl⟩
    go_wp2_with fail
    refine (dioramaref16_before.still A0 c0 l0 (t : Int) 4 (bef l0 t 3) _ HR.out HC.out HK3.out).mono ?_
    rintro e w4 ⟨rfl, rfl⟩
    go_wp2_with fail
    go_ret
    exact ⟨by first | rfl | (rw [← n2 f _ HBE.out]; rfl), 0, rfl⟩
  · have c0' : w.cell? ⟨g, 0, none⟩ = some (.int .i64 3) := (blk_cell h.hg 0).trans rfl
    clear h
    go_enter Try.func72, Try.ntmps72
    go_wp2_with fail
    refine (dioramaref16_before.still A0 c0 l0 (t : Int) 1 (bef l0 t 0) _ HR.out HC.out HK0.out).mono ?_
    rintro e w1 ⟨rfl, rfl⟩
    go_wp2_with fail
    refine (dioramaref16_before.still A0 c0 l0 (t : Int) 2 (bef l0 t 1) _ HR.out HC.out HK1.out).mono ?_
    rintro e w2 ⟨rfl, rfl⟩
    go_wp2_with fail
    refine (dioramaref16_before.still A0 c0 l0 (t : Int) 3 (bef l0 t 2) _ HR.out HC.out HK2.out).mono ?_
    rintro e w3 ⟨rfl, rfl⟩
    go_wp2_with fail
    refine (dioramaref16_before.still A0 c0 l0 (t : Int) 4 (bef l0 t 3) _ HR.out HC.out HK3.out).mono ?_
    rintro e w4 ⟨rfl, rfl⟩
    go_wp2_with fail
    go_ret
    exact ⟨by first | rfl | (rw [← n3 f _ HBE.out]; rfl), 0, rfl⟩
  · have c0' : w.cell? ⟨g, 0, none⟩ = some (.int .i64 4) := (blk_cell h.hg 0).trans rfl
    clear h
    go_enter Try.func72, Try.ntmps72
    go_wp2_with fail
    refine (dioramaref16_before.still A0 c0 l0 (t : Int) 1 (bef l0 t 0) _ HR.out HC.out HK0.out).mono ?_
    rintro e w1 ⟨rfl, rfl⟩
    go_wp2_with fail
    refine (dioramaref16_before.still A0 c0 l0 (t : Int) 2 (bef l0 t 1) _ HR.out HC.out HK1.out).mono ?_
    rintro e w2 ⟨rfl, rfl⟩
    go_wp2_with fail
    refine (dioramaref16_before.still A0 c0 l0 (t : Int) 3 (bef l0 t 2) _ HR.out HC.out HK2.out).mono ?_
    rintro e w3 ⟨rfl, rfl⟩
    go_wp2_with fail
    refine (dioramaref16_before.still A0 c0 l0 (t : Int) 4 (bef l0 t 3) _ HR.out HC.out HK3.out).mono ?_
    rintro e w4 ⟨rfl, rfl⟩
    go_wp2_with fail
    go_ret
    exact ⟨by first | rfl | (rw [← n4 f _ HBE.out]; rfl), 0, rfl⟩
  · have c0' : w.cell? ⟨g, 0, none⟩ = some (.int .i64 5) := (blk_cell h.hg 0).trans rfl
    have c1' : w.cell? ⟨g, 1, none⟩ = some (.int .i64 (f 0)) := (blk_cell h.hg 1).trans rfl
    have c2' : w.cell? ⟨g, 2, none⟩ = some (.int .i64 (f 1)) := (blk_cell h.hg 2).trans rfl
    have c3' : w.cell? ⟨g, 3, none⟩ = some (.int .i64 (f 2)) := (blk_cell h.hg 3).trans rfl
    have c4' : w.cell? ⟨g, 4, none⟩ = some (.int .i64 (f 3)) := (blk_cell h.hg 4).trans rfl
    obtain ⟨sv, hsv⟩ : ∃ sv, wrap64 (wrap64 (wrap64 (wrap64 (f 0 * bef l0 t 0) + wrap64 (f 1 * bef l0 t 1)) + wrap64 (f 2 * bef l0 t 2)) + wrap64 (f 3 * bef l0 t 3)) = sv := ⟨_, rfl⟩
    have hs9 : predF 5 f (bef l0 t) = sv / 2 ^ 10 := by rw [← hsv, n5]; rfl
    have hs8 : sumA f (bef l0 t) 4 = sv := by rw [← hsv, n5]
    have hsl := sumA_le f (bef l0 t)
    rw [hs8] at hsl
    rw [hs9]
    have HD := Aside0.mk (down_f sv hsl.1 hsl.2)
    clear hs9 hs8 hsl
    generalize sv / 2 ^ 10 = rv at HD ⊢
    clear h
    go_enter Try.func72, Try.ntmps72
    go_wp2_with fail
    refine (dioramaref16_before.still A0 c0 l0 (t : Int) 1 (bef l0 t 0) _ HR.out HC.out HK0.out).mono ?_
    rintro e w1 ⟨rfl, rfl⟩
    go_wp2_with fail
    refine (dioramaref16_before.still A0 c0 l0 (t : Int) 2 (bef l0 t 1) _ HR.out HC.out HK1.out).mono ?_
    rintro e w2 ⟨rfl, rfl⟩
    go_wp2_with fail
    refine (dioramaref16_before.still A0 c0 l0 (t : Int) 3 (bef l0 t 2) _ HR.out HC.out HK2.out).mono ?_
    rintro e w3 ⟨rfl, rfl⟩
    go_wp2_with fail
    refine (dioramaref16_before.still A0 c0 l0 (t : Int) 4 (bef l0 t 3) _ HR.out HC.out HK3.out).mono ?_
    rintro e w4 ⟨rfl, rfl⟩
    go_wp2_with fail
    go_quiet (first | (go_at_call 122; exact Calls.quiet_of ((dioramaref16_down.calls sv 1024 rv _ HD.out).mono (fun e w' h => ⟨h.1, h.2.out⟩))))
    go_wp2_with fail
    go_ret
    exact ⟨rfl, nq, rfl⟩
theorem rsign_f (a : Int) : dioramaref16_sign.f a = some (sgn a) := by
  unfold dioramaref16_sign.f sgn
  by_cases h : a < 0
  · rw [if_pos h, if_pos h]
  · rw [if_neg h, if_neg h]
    unfold mn
    split <;> split <;> first | rfl | (congr 1; omega) | (exfalso; omega)
section
theorem rsign_still (a : Int) (w : World) : Calls Try.prog 123 #[.int .i64 a] w fun e w' => e = .returned (.int .i64 (sgn a)) ∧ w' = w := by
  unfold sgn
  by_cases h : a < 0
  · rw [if_pos h]
    have h1 : decide (a < 0) = true := decide_eq_true h
    clear h
    go_enter Try.func123, Try.ntmps123
    go_wp2
    go_ret
    exact ⟨rfl, rfl⟩
  · rw [if_neg h]
    have h1 : decide (a < 0) = false := decide_eq_false h
    have e : (if a > 0 then (1 : Int) else 0) = (if 1 < a then 1 else a) := by
      by_cases h2 : a > 0
      · rw [if_pos h2]
        by_cases h3 : 1 < a
        · rw [if_pos h3]
        · rw [if_neg h3]; omega
      · rw [if_neg h2, if_neg (by omega)]; omega
    rw [e]
    obtain ⟨sv, hsv⟩ : ∃ sv, (if 1 < a then 1 else a) = sv := ⟨_, rfl⟩
    rw [hsv]
    clear h e
    go_enter Try.func123, Try.ntmps123
    go_wp2
    go_ret
    exact ⟨rfl, rfl⟩
end
theorem IsX.cell {W : World} {g : Nat} {o : Int} {f : Nat → Int} (h : IsX W g o f) (i : Nat) (hi : i < 4) : W.cell? ⟨g, 1 + i, none⟩ = some (.int .i64 (f i)) := by
  have c : i = 0 ∨ i = 1 ∨ i = 2 ∨ i = 3 := by omega
  rcases c with rfl | rfl | rfl | rfl
  · exact (blk_cell h.hg 1).trans rfl
  · exact (blk_cell h.hg 2).trans rfl
  · exact (blk_cell h.hg 3).trans rfl
  · exact (blk_cell h.hg 4).trans rfl
theorem IsX.set {W : World} {g : Nat} {o : Int} {f f' : Nat → Int} (h : IsX W g o f) (i : Nat) (hi : i < 4) (v : Int) (hf : ∀ j, f' j = if j = i then v else f j) : IsX (W.setCell ⟨g, 1 + i, none⟩ (.int .i64 v)) g o f' := by
  have k := blk_set h.hg (1 + i) (.int .i64 v)
  have c : i = 0 ∨ i = 1 ∨ i = 2 ∨ i = 3 := by omega
  constructor
  rcases c with rfl | rfl | rfl | rfl <;> simpa [hf] using k
set_option maxRecDepth 100000 in
set_option maxHeartbeats 1000000 in
theorem rlearn5_calls {w : World} {g : Nat} {f : Nat → Int} (h : IsX w g 5 f) (A0 : Option Addr) (c0 : Nat) (l0 : List Int) (hr0 : ∀ w', Moved w w' (fun k => k = g) (fun k => k = g) → Kd.C (Kd.int .i64) w' A0 l0.length l0) (hc0 : l0.length ≤ c0) (hl : l0.length ≤ 4611686018427387904) (t : Nat) (ht : t ≤ l0.length) (s : Int) :
    Calls Try.prog 73 #[.pointer (some ⟨g, 0, none⟩), .slice A0 l0.length c0, .int .i64 (t : Int), .int .i64 s] w fun e w' => e = .returned (.tuple #[]) ∧ IsX w' g 5 (learnF s (bef l0 t) f 4) ∧ Moved w w' (fun k => k = g) (fun k => k = g) := by
  have H := Aside0.mk h
  have HR := Aside0.mk hr0
  have HC := Aside0.mk hc0
  have HL := Aside0.mk hl
  have HTT := Aside0.mk ht
  clear h hr0 hc0 hl ht
  go_enter Try.func73, Try.ntmps73
  go_wp2_with fail
  go_loopg [8] 5 (fun kq v8 w' => ∃ (i : Nat), v8 = .int .i64 (i : Int) ∧ Aside0 (kq = 4 - i + 1) ∧ Aside0 (i ≤ 4) ∧ Aside0 (IsX w' g 5 (learnF s (bef l0 t) f i)) ∧ Aside0 (Moved w w' (fun k => k = g) (fun k => k = g)))
  case atStart => exact ⟨0, rfl, ⟨rfl⟩, ⟨by omega⟩, ⟨⟨H.out.hg⟩⟩, ⟨Moved.refl _ _⟩⟩
  case round =>
    obtain ⟨i, rfl, HQ, HI, HP, HM⟩ := hrel
    have hi := HI.out
    have o6 : wr.cell? ⟨g, 0, none⟩ = some (.int .i64 5) := (blk_cell HP.out.hg 0).trans rfl
    by_cases h4 : i = 4
    · subst h4
      clear hi HI
      go_wp2_with fail
      go_end0
      exact ⟨rfl, HP.out, HM.out⟩
    · have hlt : i < 4 := by omega
      have HLT := Aside0.mk hlt
      have xi := indexAt_w g i hlt
      have ci := HP.out.cell i hlt
      have fi := blk_frozen HP.out.hg (1 + i)
      have hi1 : decide ((i : Int) < 4) = true := decide_eq_true (by omega)
      have hi2 : decide (i < 4) = true := decide_eq_true hlt
      have e8 : wrap64 ((i : Int) + 1) = ((i + 1 : Nat) : Int) := by unfold wrap64; omega
      have m1 : wrap64 (4 * sgn s) = 4 * sgn s := by have := sgn_le s; unfold wrap64; omega
      have m0 : 4 * sgn s * sgn (bef l0 t i) = sgn s * sgn (bef l0 t i) * 4 := by rw [Int.mul_assoc, Int.mul_comm]
      have m2 : wrap64 (4 * sgn s * sgn (bef l0 t i)) = sgn s * sgn (bef l0 t i) * 4 := by rw [m0]; have := sgn_mul s (bef l0 t i); unfold wrap64; omega
      have e7 : wrap64 (1 + (i : Int)) = (i : Int) + 1 := by unfold wrap64; omega
      have m1' : IntKind.i64.wrap (4 * sgn s) = 4 * sgn s := (i64_w _).trans m1
      have e7' : IntKind.i64.wrap (1 + (i : Int)) = (i : Int) + 1 := (i64_w _).trans e7
      have m2' : IntKind.i64.wrap (4 * sgn s * sgn (bef l0 t i)) = sgn s * sgn (bef l0 t i) * 4 := (i64_w _).trans m2
      have o5 : wr.cell? ⟨g, 0, none⟩ = some (.int .i64 5) := (blk_cell HP.out.hg 0).trans rfl
      clear m0
      clear hi h4 hlt
      go_wp2_with fail
      go_still_tail 20, (by kernel_rfl)
      still_call (rsign_still s _)
      repeat still_step
      still_call (dioramaref16_before.still A0 c0 l0 (t : Int) ((i : Int) + 1) (bef l0 t i) _ (HR.out _ (HM.out.drewN 1)) HC.out (rbefore_f l0 t i HTT.out HL.out (by have := HLT.out; omega)))
      still_call (rsign_still (bef l0 t i) _)
      repeat still_step
      refine wpStill_nil ?_
      change wpList _ _ _ _ _ wr.drew
      go_wp2_with fail
      go_roundg (4 - i)
      case measure => have := HQ.out; have := HLT.out; omega
      case rel =>
        refine ⟨i + 1, by rw [e8], ⟨by have := HLT.out; omega⟩, ⟨by have := HLT.out; omega⟩, ⟨?_⟩, ⟨?_⟩⟩
        · refine ⟨(HP.out.set i HLT.out _ (fun j => ?_)).hg⟩
          rw [learnF_succ]
          have e : learnF s (bef l0 t) f i i = f i := by unfold learnF; rw [if_neg (by omega)]
          rw [e]
        · exact HM.out.trans ((Moved_set g (1 + i) _).drewN 1)
set_option maxRecDepth 100000 in
set_option maxHeartbeats 1000000 in
theorem rlearnO_calls {w : World} {g : Nat} {o : Int} {f : Nat → Int} (ho : o ≠ 5) (h : IsX w g o f) (v1 v2 v3 : Value) :
    Calls Try.prog 73 #[.pointer (some ⟨g, 0, none⟩), v1, v2, v3] w fun e w' => e = .returned (.tuple #[]) ∧ w' = w := by
  have o6 : w.cell? ⟨g, 0, none⟩ = some (.int .i64 o) := (blk_cell h.hg 0).trans rfl
  have h5 : (o == 5) = false := beq_eq_false_iff_ne.mpr ho
  clear h ho
  go_enter Try.func73, Try.ntmps73
  go_wp2_with fail
  go_loopg [8] 1 (fun kq v8 w' => v8 = .int .i64 0 ∧ Aside0 (w' = w))
  case atStart => exact ⟨rfl, ⟨rfl⟩⟩
  case round =>
    obtain ⟨rfl, HW⟩ := hrel
    have hw := HW.out
    subst hw
    clear HW
    go_wp2_with fail
    go_end0
    exact ⟨rfl, rfl⟩
theorem IsX.same {W W' : World} {g : Nat} {o : Int} {f : Nat → Int} (h : IsX W g o f) (e : W'.heap[g]? = W.heap[g]?) : IsX W' g o f := ⟨e.trans h.hg⟩
theorem rlearn_calls {w : World} {g o : Nat} {f ff : Nat → Int} (h : IsX w g (o : Int) f) (hf : o = 5 → f = ff) (A0 : Option Addr) (c0 : Nat) (l0 : List Int) (hr0 : ∀ w', Moved w w' (fun k => k = g) (fun k => k = g) → Kd.C (Kd.int .i64) w' A0 l0.length l0) (hc0 : l0.length ≤ c0) (hl : l0.length ≤ 4611686018427387904) (t : Nat) (ht : t ≤ l0.length) (s : Int) :
    Calls Try.prog 73 #[.pointer (some ⟨g, 0, none⟩), .slice A0 l0.length c0, .int .i64 (t : Int), .int .i64 s] w fun e w' => e = .returned (.tuple #[]) ∧ (∃ f', IsX w' g (o : Int) f' ∧ (o = 5 → f' = learnF s (bef l0 t) ff 4)) ∧ Moved w w' (fun k => k = g) (fun k => k = g) := by
  by_cases h5 : o = 5
  · subst h5
    refine (rlearn5_calls h A0 c0 l0 hr0 hc0 hl t ht s).mono ?_
    rintro e w2 ⟨rfl, h2, h3⟩
    exact ⟨rfl, ⟨_, h2, fun _ => by rw [hf rfl]⟩, h3⟩
  · refine (rlearnO_calls (by omega) h _ _ _).mono ?_
    rintro e w2 ⟨rfl, rfl⟩
    exact ⟨rfl, ⟨_, h, fun h9 => absurd h9 h5⟩, Moved.refl _ _⟩
theorem predF_same {o : Nat} {f ff b : Nat → Int} (h : o = 5 → f = ff) : predF o f b = predF o ff b := by
  by_cases h5 : o = 5
  · rw [h h5]
  · unfold predF; rw [if_neg h5, if_neg h5]
set_option maxRecDepth 100000 in
set_option maxHeartbeats 2000000 in
theorem rleft_ok {w : World} (o : Nat) (ho : o ≤ 5) (A0 : Option Addr) (c0 : Nat) (l0 : List Int) (hr0 : Kd.C (Kd.int .i64) w A0 l0.length l0) (hc0 : l0.length ≤ c0) (hb : l0.any (out 67108864) = false) (hl : l0.length ≤ 16384) :
    Calls Try.prog 69 #[.slice A0 l0.length c0, .int .i64 (o : Int)] w fun e w' => ∃ v0 v1, e = .returned (.tuple #[v0, v1]) ∧ Kd.R (Kd.int .i64) 3 w' w.heap.size (fun _ => True) v0 (l0.take (warmN o l0.length)) ∧ Kd.R (Kd.int .i64) 3 w' w.heap.size (fun _ => True) v1 (leftS l0 o (warmN o l0.length) (l0.length - warmN o l0.length)).2 ∧ Below w.heap.size w w' ∧ NeRow v0 v1 := by
  have info3 : (Try.prog.info? 3).map (fun i => (i.zero, i.size, i.bytes)) = some (some (.int .i64 0), 1, 8) := by kernel_rfl
  have HR := Aside0.mk hr0
  have HC := Aside0.mk hc0
  have HL := Aside0.mk hl
  have HO := Aside0.mk ho
  have HB := Aside0.mk hb
  have HN : Aside0 (warmN o l0.length ≤ l0.length) := ⟨by unfold warmN; split <;> omega⟩
  have HWF : Aside0 (dioramaref16_warmth.f (o : Int) = some (if o = 5 then 0 else (o : Int))) := ⟨by
    unfold dioramaref16_warmth.f
    by_cases h : o = 5
    · rw [if_pos (by omega), if_pos h]
    · rw [if_neg (by omega), if_neg h]⟩
  obtain ⟨wv, hwv⟩ : ∃ wv, (if o = 5 then (0 : Int) else (o : Int)) = wv := ⟨_, rfl⟩
  rw [hwv] at HWF
  have hmin : (if (l0.length : Int) < wv then (l0.length : Int) else wv) = ((warmN o l0.length : Nat) : Int) := by
    rw [← hwv]
    unfold warmN
    by_cases h : o = 5
    · rw [if_pos h, if_pos h, if_neg (by omega)]; rfl
    · rw [if_neg h, if_neg h]
      split <;> omega
  clear hwv
  clear hr0 hc0 hl ho hb
  generalize hn : warmN o l0.length = n at HN hmin ⊢
  clear hn
  go_enter Try.func69, Try.ntmps69
  go_wp2_with fail
  refine (dioramaref16_warmth.calls (o : Int) wv _ HWF.out).mono ?_
  rintro e w1 ⟨rfl, hbel1⟩
  have B1 : Aside0 (Below w.heap.size w w1) := ⟨by first | exact hbel1.below | exact hbel1⟩
  clear hbel1
  go_wp2_with fail
  refine (dioramaref16_newPredictor.calls (o : Int) (o : Int) 1024 0 0 0 w w1 B1.out rfl).mono ?_
  rintro e w4 ⟨g, rfl, hs, hb4, -⟩
  have P4 : Aside0 (IsX w4 g (o : Int) f0) := ⟨⟨hs.1⟩⟩
  have G4 : Aside0 (w.heap.size ≤ g) := ⟨hs.2⟩
  have B4 := Aside0.mk hb4
  clear hs hb4
  go_wp2_with fail
  go_loopg [8, 9] (l0.length - n + 1) (fun kq v8 v9 w' => ∃ (k : Nat), v9 = .int .i64 ((n + k : Nat) : Int) ∧ Aside0 (kq = l0.length - n - k + 1) ∧ Aside0 (n + k ≤ l0.length) ∧ Aside0 (∃ f, IsX w' g (o : Int) f ∧ (o = 5 → f = (leftS l0 o n k).1)) ∧ Aside0 (w'.ownsRow w.heap.size 3 1 v8 (leftS l0 o n k).2.length (nums .i64 (leftS l0 o n k).2)) ∧ Aside0 (Below w.heap.size w w'))
  case atStart => exact ⟨0, rfl, ⟨rfl⟩, ⟨HN.out⟩, ⟨⟨_, P4.out, fun _ => rfl⟩⟩, ⟨own_nil _ _ _ _⟩, B4⟩
  case round =>
    obtain ⟨k, rfl, HQ, HK, HPE, HO5, HBW⟩ := hrel
    obtain ⟨fr, hp0, hfr0⟩ := HPE.out
    have HP := Aside0.mk hp0
    have HFR := Aside0.mk hfr0
    clear hp0 hfr0 HPE
    obtain ⟨t, ht⟩ : ∃ t, n + k = t := ⟨_, rfl⟩
    rw [ht]
    have HT := Aside0.mk ht
    obtain ⟨i0, hi, hz0, hsz, _⟩ := info_parts info3
    by_cases hk : k = l0.length - n
    · have hx1 : decide ((t : Int) < (l0.length : Int)) = false := decide_eq_false (by have := HN.out; omega)
      have hx2 : decide (t < l0.length) = false := decide_eq_false (by have := HN.out; omega)
      have hcut := cut_to (P := Try.prog) 22 3 .i64 Try.underlying22 hi A0 l0.length c0 (n : Int) (by omega) (by have := HN.out; omega) HC.out
      have HRT0 := Kd.C_take (m := n) HR.out HN.out
      obtain ⟨lt, hlt⟩ : ∃ lt, l0.take n = lt := ⟨_, rfl⟩
      have ey : (n : Int).toNat = lt.length := by have := HN.out; rw [← hlt, List.length_take]; omega
      rw [ey] at hcut
      rw [hlt] at HRT0
      have HLT0 := Aside0.mk hlt
      have HRT := Aside0.mk HRT0
      have HCT : Aside0 (lt.length ≤ c0) := ⟨by have := HC.out; have := HN.out; rw [← hlt, List.length_take]; omega⟩
      have HCL : Aside0 (slices_Clone_int_int.f lt = some lt) := ⟨by unfold slices_Clone_int_int.f; rw [if_pos (by have := HL.out; rw [← hlt, List.length_take]; omega)]⟩
      clear hlt HRT0
      have HKE := Aside0.mk hk
      clear hk hi hz0 hsz ht ey
      go_wp2_with (at_builtin; refine print_append_row (w0 := w) (W := wr) w.heap.size rfl _ (.tmp 45) 22 3 .i64 8 rfl Try.underlying22 info3 (by decide) (.slice none 0 0) [] lt A0 lt.length c0 rfl rfl (own_nil _ _ _ _) ?_ HBW.out HBW.out.size (by have h1 := HLT0.out; have h2 := HL.out; have h3 : lt.length ≤ l0.length := (by rw [← h1, List.length_take]; omega); simp; omega) ?_)
      · exact Kd.reads_of_C (d := (0 : Int)) (Kd.C_below HRT.out HBW.out)
      · intro v1 w1 hown hB hG hat
        have S1 := Aside0.mk hown
        have S2 := Aside0.mk hB
        have S3 : Aside0 (Below wr.heap.size wr w1) := ⟨⟨hG.os, hG.tape, hG.output, hG.size, fun k hk => hG.block k hk (by simp [Value.ownBlock])⟩⟩
        have S4 := Aside0.mk (ne_append (ne_nil _) hat HO5.out)
        clear hown hB hG hat
        go_wp2
        go_ret2
        refine ⟨_, _, rfl, ?_, ?_, S2.out, S4.out⟩
        · rw [HLT0.out]
          exact Kd.R_of_own (h1 := fun _ => rfl) (by simpa [encs, nums] using S1.out) (fun _ _ => trivial)
        · rw [← HKE.out]
          exact Kd.R_below (Kd.R_of_own (h1 := fun _ => rfl) (by simpa [encs, nums] using HO5.out) (fun _ _ => trivial)) S3.out
    · have hx1 : decide ((t : Int) < (l0.length : Int)) = true := decide_eq_true (by have := HN.out; have := HK.out; omega)
      have hx2 : decide (t < l0.length) = true := decide_eq_true (by have := HN.out; have := HK.out; omega)
      have hx3 : ((t : Int) < (l0.length : Int)) = True := eq_true (by have := HN.out; have := HK.out; omega)
      have hx4 : (t < l0.length) = True := eq_true (by have := HN.out; have := HK.out; omega)
      have HTL : Aside0 (t < l0.length) := ⟨by have := HN.out; have := HK.out; omega⟩
      have hrr := Kd.C_below HR.out HBW.out
      obtain ⟨ad, e0, x0⟩ := Kd.at_int hrr (t : Int) (by omega) (by have := HTL.out; omega)
      cases e0
      rw [Int.toNat_natCast] at x0
      have hcut := cut_to (P := Try.prog) 22 3 .i64 Try.underlying22 hi (some ad) l0.length c0 (t : Int) (by omega) (by have := HTL.out; omega) HC.out
      have HRT0 := Kd.C_take (m := t) HR.out (by have := HTL.out; omega)
      obtain ⟨lt, hlt⟩ : ∃ lt, l0.take t = lt := ⟨_, rfl⟩
      have ey : (t : Int).toNat = lt.length := by have := HTL.out; rw [← hlt, List.length_take]; omega
      rw [ey] at hcut
      rw [hlt] at HRT0
      have HLT0 := Aside0.mk hlt
      have HRT := Aside0.mk HRT0
      have HCT : Aside0 (lt.length ≤ c0) := ⟨by have := HC.out; rw [← hlt, List.length_take]; omega⟩
      have HLT : Aside0 (lt.length ≤ 4611686018427387904) := ⟨by have := HL.out; rw [← hlt, List.length_take]; omega⟩
      have HBE : Aside0 (bef lt lt.length = bef l0 t) := ⟨by rw [← hlt]; exact bef_take (by have := HTL.out; omega)⟩
      clear hlt HRT0
      have e8 : wrap64 ((t : Int) + 1) = ((t + 1 : Nat) : Int) := by have := HL.out; have := HTL.out; unfold wrap64; omega
      obtain ⟨pv, hpv⟩ : ∃ pv, predF o (leftS l0 o n k).1 (bef l0 t) = pv := ⟨_, rfl⟩
      have HPV := Aside0.mk hpv
      have HPR : Aside0 (∀ m, Calls Try.prog 72 #[.pointer (some ⟨g, 0, none⟩), .slice (some ad) l0.length c0, .int .i64 (t : Int)] (wr.drewN m) fun e w' => e = .returned (.int .i64 pv) ∧ ∃ m', w' = (wr.drewN m).drewN m') := ⟨fun m => by
        rw [← HPV.out, ← predF_same HFR.out]
        exact next_calls (w := wr.drewN m) HO.out (HP.out.same rfl) (some ad) c0 l0 (Kd.C_drewN (Kd.C_below HR.out HBW.out) m) HC.out t (by have := HTL.out; omega) (by have := HL.out; omega) (all_in HB.out)⟩
      clear hk hi hz0 hsz ht ey hrr hpv
      go_wp2_with fail
      go_quiet (first | (go_at_call 72; exact Calls.quiet_of (HPR.out _)))
      have HRL : Aside0 (∀ w', Moved (wr.drewN nq) w' (fun k => k = g) (fun k => k = g) → Kd.C (Kd.int .i64) w' (some ad) l0.length l0) := ⟨fun w' hm =>
        Kd.C_below HR.out ((pw_below_drewN HBW.out nq).trans (hm.below (base := w.heap.size) (fun k hk => by have := G4.out; omega) HBW.out.size))⟩
      go_wp2_with fail
      refine (rlearn_calls (w := wr.drewN nq) (HP.out.same rfl) HFR.out (some ad) c0 l0 HRL.out HC.out (by have := HL.out; omega) t (by have := HTL.out; omega) (wrap64 (rd l0 (t : Int) - pv))).mono ?_
      rintro e w5 ⟨rfl, ⟨f5, hp, hf5⟩, hm⟩
      have HF5 := Aside0.mk hf5
      clear hf5
      have N5 := own_ne (pw_own_drewN HO5.out nq) (HP.out.same (W' := wr.drewN nq) rfl).hg (by decide)
      have O5 := Aside0.mk (own_moved (pw_own_drewN HO5.out nq) N5 hm)
      have B5 : Aside0 (Below w.heap.size w w5) := ⟨(pw_below_drewN HBW.out nq).trans (hm.below (base := w.heap.size) (fun k hk => by have := G4.out; omega) HBW.out.size)⟩
      have P5 := Aside0.mk hp
      have HNE := Aside0.mk N5
      have HLS := Aside0.mk (leftS_length l0 o n k)
      clear hp hm N5
      go_wp2_with (at_builtin; refine print_append_num (w0 := w) w.heap.size rfl (.tmp 39) (.tmp 41) 22 3 .i64 8 rfl Try.underlying22 info3 (by decide) _ (leftS l0 o n k).2 (wrap64 (rd l0 (t : Int) - pv)) rfl rfl O5.out B5.out B5.out.size (by have h1 := HLS.out; have h2 := HL.out; have h3 := HTL.out; have h4 := HT.out; omega) ?_; intro v1 w1 hown hB hG hat; have S1 := Aside0.mk hown; have S2 := Aside0.mk hB; have S3 := Aside0.mk (blk_grown P5.out.hg hG HNE.out); clear hown hB hG hat)
      go_roundg (l0.length - n - (k + 1) + 1)
      case measure => have := HQ.out; have := HTL.out; have := HT.out; omega
      case rel =>
        have e4 : (leftS l0 o n (k + 1)) = (learnF (wrap64 (rd l0 (t : Int) - pv)) (bef l0 t) (leftS l0 o n k).1 4, (leftS l0 o n k).2 ++ [wrap64 (rd l0 (t : Int) - pv)]) := by
          rw [leftS, HT.out, HPV.out]
        refine ⟨k + 1, by rw [e8, ← HT.out]; rfl, ⟨rfl⟩, ⟨by have := HTL.out; have := HT.out; omega⟩, ⟨by rw [e4]; exact ⟨f5, ⟨S3.out⟩, HF5.out⟩⟩, ⟨by rw [e4]; exact S1.out⟩, ⟨S2.out⟩⟩
def dioramaref16_left.f (l0 : List Int) (a1 : Int) : Option (List Int × List Int) := if 0 ≤ a1 then (if a1 ≤ 5 then (if l0.any (out 67108864) = false then (if l0.length ≤ 16384 then some ((leftF l0 a1).1, (leftF l0 a1).2.1) else none) else none) else none) else none
theorem dioramaref16_left.calls (A0 : Option Addr) (c0 : Nat) (l0 : List Int) (a1 : Int) (r1 : List Int) (r2 : List Int) (w : World) (hr0 : Kd.C (Kd.int .i64) w A0 l0.length l0) (hc0 : l0.length ≤ c0) (h : dioramaref16_left.f l0 a1 = some (r1, r2)) :
    Calls Try.prog 69 #[.slice A0 l0.length c0, .int .i64 a1] w fun e w' => ∃ v0_ v1_ : Value, e = .returned (.tuple #[v0_, v1_]) ∧ Kd.R (Kd.int .i64) 3 w' w.heap.size (fun k_ => some k_ ≠ (v1_ : Value).ownBlock) v0_ r1 ∧ Kd.R (Kd.int .i64) 3 w' w.heap.size (fun k_ => some k_ ≠ (v0_ : Value).ownBlock) v1_ r2 ∧ Below w.heap.size w w' := by
  unfold dioramaref16_left.f at h
  by_cases h0 : 0 ≤ a1
  · by_cases h1 : a1 ≤ 5
    · by_cases h2 : l0.any (out 67108864) = false
      · by_cases h3 : l0.length ≤ 16384
        · rw [if_pos h0, if_pos h1, if_pos h2, if_pos h3] at h
          unfold leftF at h
          rw [if_neg (by rintro (h | h | h) <;> first | omega | (rw [h2] at h; cases h)), if_neg (by omega)] at h
          cases h
          have hh := rleft_ok (w := w) a1.toNat (by omega) A0 c0 l0 hr0 hc0 h2 h3
          rw [Int.toNat_of_nonneg h0] at hh
          refine hh.mono ?_
          rintro e w' ⟨v0, v1, rfl, h0, h1, hb, hn⟩
          exact ⟨v0, v1, rfl, R_apart h0 hn, R_apart h1 (ne_symm hn), hb⟩
        · rw [if_pos h0, if_pos h1, if_pos h2, if_neg h3] at h; cases h
      · rw [if_pos h0, if_pos h1, if_neg h2] at h; cases h
    · rw [if_pos h0, if_neg h1] at h; cases h
  · rw [if_neg h0] at h; cases h

end Go.Proofs.Ytdiemkeflmflaaa.QSound
