/- Part of a proof: functions of the program as Lean functions, and that the machine's calls come to them. Made by a program of this session (wip/mp). -/
import Derived.Test.YtlhdfdedhdcmiaaQBitsx0
import Derived.Test.YtlhdfdedhdcmiaaQBitsx28
namespace Go.Proofs.Ytlhdfdedhdcmiaa.QBits
open Go.RowKit Go.Proofs.YtlhdfdedhdcmiaaW.PrintWords Go.Proofs.YtlhdfdedhdcmiaaW.PrintLast Go.Proofs.YtlhdfdedhdcmiaaW.PrintMore
attribute [local go_sem] max2_int min2_int max_two min_two max_three min_three max_four min_four   -- for this text's walks alone
set_option linter.unusedVariables false
set_option linter.unusedSimpArgs false

/-! ### dioramaref01_Vint: function 28 -/
mutual
def dioramaref01_Vint.l0 : Nat → List Int → Int → Int → Option (Int × Int × Bool × Int)
  | 0, _, _, _ => none
  | k + 1, x0, x1, x8 => if 0 ≤ x1 then (if x1 < (x0.length : Int) then (if 0 ≤ (IntKind.u64.wrap (wrap64 (8 - x8))) then (if (shr .u8 (rd x0 x1) (IntKind.u64.wrap (wrap64 (8 - x8)))) = 0 then (dioramaref01_Vint.l0 k x0 x1 (wrap64 (x8 + 1))) else (if x1 > (wrap64 ((x0.length : Int) - x8)) then (some (0, 0, false, 3)) else (dioramaref01_Vint.l1 k x0 x1 x8 (wrap64 ((wrap64 (rd x0 x1)) - (shl .i64 1 (IntKind.u64.wrap (wrap64 (8 - x8)))))) 1))) else (none)) else (none)) else (none)
def dioramaref01_Vint.l1 : Nat → List Int → Int → Int → Int → Int → Option (Int × Int × Bool × Int)
  | 0, _, _, _, _, _ => none
  | k + 1, x0, x1, x8, x9, x10 => if x10 < x8 then (if 0 ≤ (wrap64 (x1 + x10)) then (if (wrap64 (x1 + x10)) < (x0.length : Int) then (dioramaref01_Vint.l1 k x0 x1 x8 (wrap64 ((wrap64 (x9 * 256)) + (wrap64 (rd x0 (wrap64 (x1 + x10)))))) (wrap64 (x10 + 1))) else (none)) else (none)) else ((dioramaref01_most.f x8).bind fun t211 => (if x9 = t211 then (some (0, x8, true, 0)) else (some (x9, x8, false, 0))))
end
def dioramaref01_Vint.f (k : Nat) (l0 : List Int) (a1 : Int) : Option (Int × Int × Bool × Int) := if a1 < 0 then (some (0, 0, false, 1)) else (if a1 ≥ (l0.length : Int) then (some (0, 0, false, 3)) else (if 0 ≤ a1 then (if a1 < (l0.length : Int) then (if (rd l0 a1) = 0 then (some (0, 0, false, 4)) else (dioramaref01_Vint.l0 k l0 a1 1)) else (none)) else (none)))
theorem dioramaref01_Vint.mono_l : ∀ k, (∀ y0 y1 y2, LeO (dioramaref01_Vint.l0 k y0 y1 y2) (dioramaref01_Vint.l0 (k + 1) y0 y1 y2)) ∧ (∀ y0 y1 y2 y3 y4, LeO (dioramaref01_Vint.l1 k y0 y1 y2 y3 y4) (dioramaref01_Vint.l1 (k + 1) y0 y1 y2 y3 y4))
  | 0 => ⟨fun _ _ _ r h => by simp [dioramaref01_Vint.l0] at h, fun _ _ _ _ _ r h => by simp [dioramaref01_Vint.l1] at h⟩
  | k + 1 => by
    obtain ⟨ih0, ih1⟩ := dioramaref01_Vint.mono_l k
    refine ⟨?_, ?_⟩
    · intro y0 y1 y2
      unfold dioramaref01_Vint.l0
      repeat' first
      | (with_reducible exact ih0 _ _ _)
      | (with_reducible exact ih1 _ _ _ _ _)
      | (with_reducible exact LeO.refl _)
      | (with_reducible exact LeO.none _)
      | (with_reducible refine LeO.ite ?_ ?_)
      | (with_reducible refine LeO.bind ?_ (fun _ => ?_))
      | exact ih0 _ _ _
      | exact ih1 _ _ _ _ _
      | exact LeO.none _
      | refine LeO.ite ?_ ?_
      | refine LeO.bind ?_ (fun _ => ?_)
    · intro y0 y1 y2 y3 y4
      unfold dioramaref01_Vint.l1
      repeat' first
      | (with_reducible exact ih0 _ _ _)
      | (with_reducible exact ih1 _ _ _ _ _)
      | (with_reducible exact LeO.refl _)
      | (with_reducible exact LeO.none _)
      | (with_reducible refine LeO.ite ?_ ?_)
      | (with_reducible refine LeO.bind ?_ (fun _ => ?_))
      | exact ih0 _ _ _
      | exact ih1 _ _ _ _ _
      | exact LeO.none _
      | refine LeO.ite ?_ ?_
      | refine LeO.bind ?_ (fun _ => ?_)
theorem dioramaref01_Vint.mono : ∀ a0 a1 k, LeO (dioramaref01_Vint.f k a0 a1) (dioramaref01_Vint.f (k + 1) a0 a1) := by
  intro a0 a1 k
  obtain ⟨ih0, ih1⟩ := dioramaref01_Vint.mono_l k
  unfold dioramaref01_Vint.f
  repeat' first
      | (with_reducible exact ih0 _ _ _)
      | (with_reducible exact ih1 _ _ _ _ _)
      | (with_reducible exact LeO.refl _)
      | (with_reducible exact LeO.none _)
      | (with_reducible refine LeO.ite ?_ ?_)
      | (with_reducible refine LeO.bind ?_ (fun _ => ?_))
      | exact ih0 _ _ _
      | exact ih1 _ _ _ _ _
      | exact LeO.none _
      | refine LeO.ite ?_ ?_
      | refine LeO.bind ?_ (fun _ => ?_)
set_option maxHeartbeats 8000000 in
set_option maxRecDepth 100000 in
theorem dioramaref01_Vint.calls (k : Nat) (A0 : Option Addr) (c0 : Nat) (l0 : List Int) (a1 : Int) (r1 : Int) (r2 : Int) (r3 : Bool) (r4 : Int) (w : World) (hr0 : Kd.C (Kd.int .u8) w A0 l0.length l0) (hc0 : l0.length ≤ c0) (h : dioramaref01_Vint.f k l0 a1 = some (r1, r2, r3, r4)) :
    Calls Try.prog 28 #[.slice A0 l0.length c0, .int .i64 a1] w fun e w' => e = .returned (.tuple #[.int .i64 r1, .int .i64 r2, .bool r3, .int .i64 r4]) ∧ Drawn0 w w' := by
  have HR0 := Aside0.mk hr0
  have HC0 := Aside0.mk hc0
  clear hr0 hc0
  have H : (if a1 < 0 then (some (0, 0, false, 1)) else (if a1 ≥ (l0.length : Int) then (some (0, 0, false, 3)) else (if 0 ≤ a1 then (if a1 < (l0.length : Int) then (if (rd l0 a1) = 0 then (some (0, 0, false, 4)) else (dioramaref01_Vint.l0 k l0 a1 1)) else (none)) else (none)))) = some (r1, r2, r3, r4) := h
  clear h
  by_cases c3 : a1 < 0
  · rw [if_pos c3] at H
    have c3b0 : decide (a1 < 0) = true := decide_eq_true c3
    clear c3
    simp only [Option.some.injEq, Prod.mk.injEq] at H
    obtain ⟨rfl, rfl, rfl, rfl⟩ := H
    go_enter Try.func28, Try.ntmps28
    go_wp2
    refine bodyPost_ret (results_list (rs := [.tmp 4, .tmp 5, .tmp 6, .tmp 7]) rfl (by simp) (.tmp (.tmp (.tmp (.tmp .nil))))) rfl ?_
    exact ⟨by first | rfl | (simp; done) | (simp [*]; done), by repeat (first | exact Drawn0.refl _ | apply Drawn0.step)⟩
  · rw [if_neg c3] at H
    have c3b0 : decide (a1 < 0) = false := decide_eq_false c3
    clear c3
    by_cases c4 : a1 ≥ (l0.length : Int)
    · rw [if_pos c4] at H
      have c4b0 : decide ((l0.length : Int) ≤ a1) = true := decide_eq_true c4
      clear c4
      simp only [Option.some.injEq, Prod.mk.injEq] at H
      obtain ⟨rfl, rfl, rfl, rfl⟩ := H
      go_enter Try.func28, Try.ntmps28
      go_wp2
      refine bodyPost_ret (results_list (rs := [.tmp 4, .tmp 5, .tmp 6, .tmp 7]) rfl (by simp) (.tmp (.tmp (.tmp (.tmp .nil))))) rfl ?_
      exact ⟨by first | rfl | (simp; done) | (simp [*]; done), by repeat (first | exact Drawn0.refl _ | apply Drawn0.step)⟩
    · rw [if_neg c4] at H
      have c4b0 : decide ((l0.length : Int) ≤ a1) = false := decide_eq_false c4
      clear c4
      by_cases c5 : 0 ≤ a1
      · rw [if_pos c5] at H
        have c5b0 : decide (0 ≤ a1) = true := decide_eq_true c5
        clear c5
        by_cases c6 : a1 < (l0.length : Int)
        · rw [if_pos c6] at H
          have c6b0 : decide (a1 < (l0.length : Int)) = true := decide_eq_true c6
          clear c6
          by_cases c7 : (rd l0 a1) = 0
          · rw [if_pos c7] at H
            have c7b0 : ((rd l0 a1) == 0) = true := beq_iff_eq.mpr c7
            have c7b1 : ((rd l0 a1) != 0) = false := bne_eq_false_iff_eq.mpr c7
            clear c7
            simp only [Option.some.injEq, Prod.mk.injEq] at H
            obtain ⟨rfl, rfl, rfl, rfl⟩ := H
            have p207 : 0 ≤ (a1 : Int) := of_decide_eq_true (by first | (with_reducible assumption) | assumption)
            have q207 : a1 < (l0.length : Int) := of_decide_eq_true (by first | (with_reducible assumption) | assumption)
            obtain ⟨ad207, e207, hx207_0⟩ := Kd.at_int HR0.out a1 p207 q207
            cases e207
            replace p207 := eq_true p207
            replace q207 := eq_true q207
            go_enter Try.func28, Try.ntmps28
            go_wp2
            refine bodyPost_ret (results_list (rs := [.tmp 4, .tmp 5, .tmp 6, .tmp 7]) rfl (by simp) (.tmp (.tmp (.tmp (.tmp .nil))))) rfl ?_
            exact ⟨by first | rfl | (simp; done) | (simp [*]; done), by repeat (first | exact Drawn0.refl _ | apply Drawn0.step)⟩
          · rw [if_neg c7] at H
            have c7b0 : ((rd l0 a1) == 0) = false := beq_eq_false_iff_ne.mpr c7
            have c7b1 : ((rd l0 a1) != 0) = true := bne_iff_ne.mpr c7
            have H' := Aside0.mk H
            clear H
            have p207 : 0 ≤ (a1 : Int) := of_decide_eq_true (by first | (with_reducible assumption) | assumption)
            have q207 : a1 < (l0.length : Int) := of_decide_eq_true (by first | (with_reducible assumption) | assumption)
            obtain ⟨ad207, e207, hx207_0⟩ := Kd.at_int HR0.out a1 p207 q207
            cases e207
            replace p207 := eq_true p207
            replace q207 := eq_true q207
            go_enter Try.func28, Try.ntmps28
            go_wp2
            go_loopg [8] k (fun kq v8 w' => ∃ (x8_1 : Int), v8 = .int .i64 x8_1 ∧ Aside0 (dioramaref01_Vint.l0 kq l0 a1 x8_1 = some (r1, r2, r3, r4)) ∧ Aside0 (kq ≤ k) ∧ Drawn0 w w')
            case atStart => exact ⟨(1), (by first | rfl | (simp; done) | (simp [*]; done)), H', ⟨Nat.le_refl _⟩, by repeat (first | exact Drawn0.refl _ | apply Drawn0.step)⟩
            case round =>
              clear H'
              try clear c2
              try clear p2
              try clear q2
              try clear hx2
              try clear c3
              try clear c3b0
              try clear c4
              try clear c4b0
              try clear c5
              try clear c5b0
              try clear c6
              try clear c6b0
              try clear c7
              try clear c7b0
              try clear c7b1
              try clear hx207_0
              try clear p207
              try clear q207
              obtain ⟨x8_1, rfl, HA, HK1, ⟨m1, rfl⟩⟩ := hrel
              cases gk with
              | zero => exact absurd HA.out (by simp [dioramaref01_Vint.l0])
              | succ k1 =>
                have H := HA.out
                clear HA
                simp only [dioramaref01_Vint.l0] at H
                by_cases c8 : 0 ≤ a1
                · rw [if_pos c8] at H
                  have c8b0 : decide (0 ≤ a1) = true := decide_eq_true c8
                  clear c8
                  by_cases c9 : a1 < (l0.length : Int)
                  · rw [if_pos c9] at H
                    have c9b0 : decide (a1 < (l0.length : Int)) = true := decide_eq_true c9
                    clear c9
                    obtain ⟨ji10, hji10⟩ : ∃ j_ : Int, (IntKind.u64.wrap (wrap64 (8 - x8_1))) = j_ := ⟨_, rfl⟩
                    replace H : (if 0 ≤ (ji10) then (if (shr .u8 (rd l0 a1) (ji10)) = 0 then (dioramaref01_Vint.l0 k1 l0 a1 (wrap64 (x8_1 + 1))) else (if a1 > (wrap64 ((l0.length : Int) - x8_1)) then (some (0, 0, false, 3)) else (dioramaref01_Vint.l1 k1 l0 a1 x8_1 (wrap64 ((wrap64 (rd l0 a1)) - (shl .i64 1 (ji10)))) 1))) else (none)) = some (r1, r2, r3, r4) := by first | (rw [hji10] at H; exact H) | (simp only [hji10] at H ⊢; exact H)
                    by_cases c11 : 0 ≤ (ji10)
                    · rw [if_pos c11] at H
                      have c11b0 := eq_true c11
                      have c11b1 : decide (0 ≤ (ji10)) = true := decide_eq_true c11
                      clear c11
                      obtain ⟨ji12, hji12⟩ : ∃ j_ : Int, (shr .u8 (rd l0 a1) (ji10)) = j_ := ⟨_, rfl⟩
                      replace H : (if (ji12) = 0 then (dioramaref01_Vint.l0 k1 l0 a1 (wrap64 (x8_1 + 1))) else (if a1 > (wrap64 ((l0.length : Int) - x8_1)) then (some (0, 0, false, 3)) else (dioramaref01_Vint.l1 k1 l0 a1 x8_1 (wrap64 ((wrap64 (rd l0 a1)) - (shl .i64 1 (ji10)))) 1))) = some (r1, r2, r3, r4) := by first | (rw [hji12] at H; exact H) | (simp only [hji12] at H ⊢; exact H)
                      have hji12_ : ((rd l0 a1) / 2 ^ min (ji10).toNat 8) = ji12 := hji12
                      have hji12z : (ji10) ≤ 8 → ((rd l0 a1) / 2 ^ (ji10).toNat) = ji12 := shr_small hji12
                      by_cases c13 : (ji12) = 0
                      · rw [if_pos c13] at H
                        have c13b0 : ((ji12) == 0) = true := beq_iff_eq.mpr c13
                        have c13b1 : ((ji12) != 0) = false := bne_eq_false_iff_eq.mpr c13
                        clear c13
                        have H' := Aside0.mk H
                        clear H
                        have p208 : 0 ≤ (a1 : Int) := of_decide_eq_true (by first | (with_reducible assumption) | assumption)
                        have q208 : a1 < (l0.length : Int) := of_decide_eq_true (by first | (with_reducible assumption) | assumption)
                        obtain ⟨ad208, e208, hx208_0⟩ := Kd.at_int HR0.out a1 p208 q208
                        obtain rfl : ad207 = ad208 := (by injection e208)
                        replace p208 := eq_true p208
                        replace q208 := eq_true q208
                        go_wp2
                        go_roundg k1
                        case measure => have := HK1.out; omega
                        case rel => exact ⟨(wrap64 (x8_1 + 1)), (by first | rfl | (simp; done) | (simp [*]; done)), H', ⟨by have := HK1.out; omega⟩, by repeat (first | exact Drawn0.refl _ | apply Drawn0.step)⟩
                      · rw [if_neg c13] at H
                        have c13b0 : ((ji12) == 0) = false := beq_eq_false_iff_ne.mpr c13
                        have c13b1 : ((ji12) != 0) = true := bne_iff_ne.mpr c13
                        by_cases c14 : a1 > (wrap64 ((l0.length : Int) - x8_1))
                        · rw [if_pos c14] at H
                          have c14b0 : decide ((wrap64 ((l0.length : Int) - x8_1)) < a1) = true := decide_eq_true c14
                          clear c14
                          simp only [Option.some.injEq, Prod.mk.injEq] at H
                          obtain ⟨rfl, rfl, rfl, rfl⟩ := H
                          have p208 : 0 ≤ (a1 : Int) := of_decide_eq_true (by first | (with_reducible assumption) | assumption)
                          have q208 : a1 < (l0.length : Int) := of_decide_eq_true (by first | (with_reducible assumption) | assumption)
                          obtain ⟨ad208, e208, hx208_0⟩ := Kd.at_int HR0.out a1 p208 q208
                          obtain rfl : ad207 = ad208 := (by injection e208)
                          replace p208 := eq_true p208
                          replace q208 := eq_true q208
                          go_wp2
                          refine bodyPost_ret (results_list (rs := [.tmp 4, .tmp 5, .tmp 6, .tmp 7]) rfl (by simp) (.tmp (.tmp (.tmp (.tmp .nil))))) rfl ?_
                          exact ⟨by first | rfl | (simp; done) | (simp only [← hji10, ← hji12] <;> (first | rfl | simp)) | (simp [*]; done), by repeat (first | exact Drawn0.refl _ | apply Drawn0.step)⟩
                        · rw [if_neg c14] at H
                          have c14b0 : decide ((wrap64 ((l0.length : Int) - x8_1)) < a1) = false := decide_eq_false c14
                          clear c14
                          have c15b0 := eq_true (of_decide_eq_true (by first | (with_reducible assumption) | assumption) : 0 ≤ (ji10))
                          obtain ⟨ji16, hji16⟩ : ∃ j_ : Int, (shl .i64 1 (ji10)) = j_ := ⟨_, rfl⟩
                          replace H : (dioramaref01_Vint.l1 k1 l0 a1 x8_1 (wrap64 ((wrap64 (rd l0 a1)) - (ji16))) 1) = some (r1, r2, r3, r4) := by first | (rw [hji16] at H; exact H) | (simp only [hji16] at H ⊢; exact H)
                          have hji16_ : (IntKind.i64.wrap (1 * 2 ^ min (ji10).toNat 64)) = ji16 := hji16
                          have hji16z : (ji10) ≤ 64 → (IntKind.i64.wrap (1 * 2 ^ (ji10).toNat)) = ji16 := shl_small hji16
                          have hji16u : (IntKind.i64.wrap (2 ^ min (ji10).toNat 64)) = ji16 := by have h_ := hji16_; rw [Int.one_mul] at h_; exact h_
                          have hji16v : (ji10) ≤ 64 → (IntKind.i64.wrap (2 ^ (ji10).toNat)) = ji16 := fun hle_ => by have h_ := hji16z hle_; rw [Int.one_mul] at h_; exact h_
                          have hji16y : (wrap64 (1 * 2 ^ min (ji10).toNat 64)) = ji16 := (i64_w _).symm.trans hji16_
                          have hji16x : (ji10) ≤ 64 → (wrap64 (1 * 2 ^ (ji10).toNat)) = ji16 := fun h_ => (i64_w _).symm.trans (hji16z h_)
                          have H' := Aside0.mk H
                          clear H
                          have p208 : 0 ≤ (a1 : Int) := of_decide_eq_true (by first | (with_reducible assumption) | assumption)
                          have q208 : a1 < (l0.length : Int) := of_decide_eq_true (by first | (with_reducible assumption) | assumption)
                          obtain ⟨ad208, e208, hx208_0⟩ := Kd.at_int HR0.out a1 p208 q208
                          obtain rfl : ad207 = ad208 := (by injection e208)
                          replace p208 := eq_true p208
                          replace q208 := eq_true q208
                          have p209 : 0 ≤ (a1 : Int) := of_decide_eq_true (by first | (with_reducible assumption) | assumption)
                          have q209 : a1 < (l0.length : Int) := of_decide_eq_true (by first | (with_reducible assumption) | assumption)
                          obtain ⟨ad209, e209, hx209_0⟩ := Kd.at_int HR0.out a1 p209 q209
                          obtain rfl : ad207 = ad209 := (by injection e209)
                          replace p209 := eq_true p209
                          replace q209 := eq_true q209
                          go_wp2
                          go_loopg [9, 10] k1 (fun kq v9 v10 w' => ∃ (x9_2 : Int) (x10_2 : Int), v9 = .int .i64 x9_2 ∧ v10 = .int .i64 x10_2 ∧ Aside0 (dioramaref01_Vint.l1 kq l0 a1 x8_1 x9_2 x10_2 = some (r1, r2, r3, r4)) ∧ Aside0 (kq ≤ k1) ∧ Drawn0 w w')
                          case atStart => exact ⟨(wrap64 ((wrap64 (rd l0 a1)) - (ji16))), (1), (by first | rfl | (simp; done) | (simp only [← hji16] <;> (first | rfl | simp)) | (simp [*]; done)), (by first | rfl | (simp; done) | (simp [*]; done)), H', ⟨Nat.le_refl _⟩, by repeat (first | exact Drawn0.refl _ | apply Drawn0.step)⟩
                          case round =>
                            clear H'
                            try clear c1
                            try clear c2
                            try clear p2
                            try clear q2
                            try clear hx2
                            try clear c3
                            try clear c3b0
                            try clear c4
                            try clear c4b0
                            try clear c5
                            try clear c5b0
                            try clear c6
                            try clear c6b0
                            try clear p6
                            try clear c7
                            try clear c7b0
                            try clear c7b1
                            try clear c8
                            try clear c8b0
                            try clear c9
                            try clear c9b0
                            try clear c11
                            try clear c11b0
                            try clear c11b1
                            try clear c13
                            try clear c13b0
                            try clear c13b1
                            try clear c14
                            try clear c14b0
                            try clear c15
                            try clear c15b0
                            try clear hx207_0
                            try clear hx208_0
                            try clear hx209_0
                            try clear p2
                            try clear p207
                            try clear p208
                            try clear p209
                            try clear q2
                            try clear q207
                            try clear q208
                            try clear q209
                            obtain ⟨x9_2, x10_2, rfl, rfl, HA, HK2, ⟨m2, rfl⟩⟩ := hrel
                            cases gk with
                            | zero => exact absurd HA.out (by simp [dioramaref01_Vint.l1])
                            | succ k2 =>
                              have H := HA.out
                              clear HA
                              simp only [dioramaref01_Vint.l1] at H
                              by_cases c17 : x10_2 < x8_1
                              · rw [if_pos c17] at H
                                have c17b0 : decide (x10_2 < x8_1) = true := decide_eq_true c17
                                clear c17
                                obtain ⟨ji18, hji18⟩ : ∃ j_ : Int, (wrap64 (a1 + x10_2)) = j_ := ⟨_, rfl⟩
                                replace H : (if 0 ≤ (ji18) then (if (ji18) < (l0.length : Int) then (dioramaref01_Vint.l1 k2 l0 a1 x8_1 (wrap64 ((wrap64 (x9_2 * 256)) + (wrap64 (rd l0 (ji18))))) (wrap64 (x10_2 + 1))) else (none)) else (none)) = some (r1, r2, r3, r4) := by first | (rw [hji18] at H; exact H) | (simp only [hji18] at H ⊢; exact H)
                                have hji18w : (IntKind.i64.wrap (a1 + x10_2)) = ji18 := (i64_w _).trans hji18
                                by_cases c19 : 0 ≤ (ji18)
                                · rw [if_pos c19] at H
                                  have c19b0 : decide (0 ≤ (ji18)) = true := decide_eq_true c19
                                  clear c19
                                  by_cases c20 : (ji18) < (l0.length : Int)
                                  · rw [if_pos c20] at H
                                    have c20b0 : decide ((ji18) < (l0.length : Int)) = true := decide_eq_true c20
                                    clear c20
                                    have H' := Aside0.mk H
                                    clear H
                                    have p210 : 0 ≤ ((ji18) : Int) := of_decide_eq_true (by first | (with_reducible assumption) | assumption)
                                    have q210 : (ji18) < (l0.length : Int) := of_decide_eq_true (by first | (with_reducible assumption) | assumption)
                                    obtain ⟨ad210, e210, hx210_0⟩ := Kd.at_int HR0.out (ji18) p210 q210
                                    obtain rfl : ad207 = ad210 := (by injection e210)
                                    replace p210 := eq_true p210
                                    replace q210 := eq_true q210
                                    go_wp2
                                    go_roundg k2
                                    case measure => have := HK1.out; have := HK2.out; omega
                                    case rel => exact ⟨(wrap64 ((wrap64 (x9_2 * 256)) + (wrap64 (rd l0 (ji18))))), (wrap64 (x10_2 + 1)), (by first | rfl | (simp; done) | (simp only [← hji18] <;> (first | rfl | simp)) | (simp [*]; done)), (by first | rfl | (simp; done) | (simp [*]; done)), H', ⟨by have := HK1.out; have := HK2.out; omega⟩, by repeat (first | exact Drawn0.refl _ | apply Drawn0.step)⟩
                                  · rw [if_neg c20] at H
                                    exact absurd H (by simp)
                                · rw [if_neg c19] at H
                                  exact absurd H (by simp)
                              · rw [if_neg c17] at H
                                have c17b0 : decide (x10_2 < x8_1) = false := decide_eq_false c17
                                clear c17
                                replace H := Option.bind_eq_some_iff.mp H
                                obtain ⟨t211, A210, H⟩ := H
                                replace H : (if x9_2 = t211 then (some (0, x8_1, true, 0)) else (some (x9_2, x8_1, false, 0))) = some (r1, r2, r3, r4) := H
                                have A21 := Aside0.mk A210
                                clear A210
                                by_cases c22 : x9_2 = t211
                                · rw [if_pos c22] at H
                                  have c22b0 : (x9_2 == t211) = true := beq_iff_eq.mpr c22
                                  have c22b1 : (x9_2 != t211) = false := bne_eq_false_iff_eq.mpr c22
                                  clear c22
                                  simp only [Option.some.injEq, Prod.mk.injEq] at H
                                  obtain ⟨rfl, rfl, rfl, rfl⟩ := H
                                  go_wp2_with (first | ((with_reducible refine gate_callee (f := 66) rfl ?_); refine goesL_ (some 66) rfl rfl Try.func66 (by kernel_rfl) rfl #[.int .i64 x8_1] rfl (by (try simp only [List.map_toArray, List.map_cons, List.map_nil]); first | done | rfl | (simp only [List.length_drop, List.length_take]; rfl)) ?_; (with_reducible refine (dioramaref01_most.calls x8_1 t211 _ A21.out).mono ?_); rintro e w' ⟨rfl, ⟨nd, rfl⟩⟩; refine ⟨_, rfl, ?_⟩))
                                  refine bodyPost_ret (results_list (rs := [.tmp 4, .tmp 5, .tmp 6, .tmp 7]) rfl (by simp) (.tmp (.tmp (.tmp (.tmp .nil))))) rfl ?_
                                  exact ⟨by first | rfl | (simp; done) | (simp only [← hji10, ← hji12, ← hji16] <;> (first | rfl | simp)) | (simp [*]; done), by repeat (first | exact Drawn0.refl _ | apply Drawn0.step)⟩
                                · rw [if_neg c22] at H
                                  have c22b0 : (x9_2 == t211) = false := beq_eq_false_iff_ne.mpr c22
                                  have c22b1 : (x9_2 != t211) = true := bne_iff_ne.mpr c22
                                  simp only [Option.some.injEq, Prod.mk.injEq] at H
                                  obtain ⟨rfl, rfl, rfl, rfl⟩ := H
                                  go_wp2_with (first | ((with_reducible refine gate_callee (f := 66) rfl ?_); refine goesL_ (some 66) rfl rfl Try.func66 (by kernel_rfl) rfl #[.int .i64 x8_1] rfl (by (try simp only [List.map_toArray, List.map_cons, List.map_nil]); first | done | rfl | (simp only [List.length_drop, List.length_take]; rfl)) ?_; (with_reducible refine (dioramaref01_most.calls x8_1 t211 _ A21.out).mono ?_); rintro e w' ⟨rfl, ⟨nd, rfl⟩⟩; refine ⟨_, rfl, ?_⟩))
                                  refine bodyPost_ret (results_list (rs := [.tmp 4, .tmp 5, .tmp 6, .tmp 7]) rfl (by simp) (.tmp (.tmp (.tmp (.tmp .nil))))) rfl ?_
                                  exact ⟨by first | rfl | (simp; done) | (simp only [← hji10, ← hji12, ← hji16] <;> (first | rfl | simp)) | (simp [*]; done), by repeat (first | exact Drawn0.refl _ | apply Drawn0.step)⟩
                    · rw [if_neg c11] at H
                      exact absurd H (by simp)
                  · rw [if_neg c9] at H
                    exact absurd H (by simp)
                · rw [if_neg c8] at H
                  exact absurd H (by simp)
        · rw [if_neg c6] at H
          exact absurd H (by simp)
      · rw [if_neg c5] at H
        exact absurd H (by simp)

end Go.Proofs.Ytlhdfdedhdcmiaa.QBits
