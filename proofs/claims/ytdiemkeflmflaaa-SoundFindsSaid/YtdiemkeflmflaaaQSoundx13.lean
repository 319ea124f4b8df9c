/- Part of a proof: functions of the program as Lean functions, and that the machine's calls come to them. Made by a program of this session (wip/mp). -/
import Derived.Test.YtdiemkeflmflaaaQSoundx0
import Derived.Test.YtdiemkeflmflaaaQSoundx5
namespace Go.Proofs.Ytdiemkeflmflaaa.QSound
open Go.RowKit Go.Proofs.YtdiemkeflmflaaaV Go.Proofs.YtdiemkeflmflaaaW.PrintWords Go.Proofs.YtdiemkeflmflaaaW.PrintLast Go.Proofs.YtdiemkeflmflaaaW.PrintMore
attribute [local go_sem] max2_int min2_int max_two min_two max_three min_three max_four min_four   -- for this text's walks alone
set_option linter.unusedVariables false
set_option linter.unusedSimpArgs false

/-! ### dioramaref16_At: function 24 -/
def dioramaref16_At.l0 : Nat → List (S34) → Int → Int → Option (Int × Int)
  | 0, _, _, _ => none
  | k + 1, x0, x1, x6 => if x6 ≥ 0 then (if 0 ≤ x6 then (if x6 < (x0.length : Int) then (if ((rd_T34 x0 x6).f1) > 0 then (if ((rd_T34 x0 x6).f0) ≤ x1 then (if ((rd_T34 x0 x6).f0) ≥ 0 then (if (wrap64 (x1 - ((rd_T34 x0 x6).f0))) < ((rd_T34 x0 x6).f1) then (some (x6, 0)) else (if ((rd_T34 x0 x6).f0) < 0 then (if x1 < (wrap64 (((rd_T34 x0 x6).f0) + ((rd_T34 x0 x6).f1))) then (some (x6, 0)) else (dioramaref16_At.l0 k x0 x1 (wrap64 (x6 - 1)))) else (dioramaref16_At.l0 k x0 x1 (wrap64 (x6 - 1))))) else (if ((rd_T34 x0 x6).f0) < 0 then (if x1 < (wrap64 (((rd_T34 x0 x6).f0) + ((rd_T34 x0 x6).f1))) then (some (x6, 0)) else (dioramaref16_At.l0 k x0 x1 (wrap64 (x6 - 1)))) else (dioramaref16_At.l0 k x0 x1 (wrap64 (x6 - 1))))) else (dioramaref16_At.l0 k x0 x1 (wrap64 (x6 - 1)))) else (dioramaref16_At.l0 k x0 x1 (wrap64 (x6 - 1)))) else (none)) else (none)) else (some (0, 5))
def dioramaref16_At.f (k : Nat) (l0 : List (S34)) (a1 : Int) : Option (Int × Int) := dioramaref16_At.l0 k l0 a1 (wrap64 ((l0.length : Int) - 1))
theorem dioramaref16_At.mono_l : ∀ k, (∀ y0 y1 y2, LeO (dioramaref16_At.l0 k y0 y1 y2) (dioramaref16_At.l0 (k + 1) y0 y1 y2))
  | 0 => fun _ _ _ r h => by simp [dioramaref16_At.l0] at h
  | k + 1 => by
    have ih0 := dioramaref16_At.mono_l k
    · intro y0 y1 y2
      unfold dioramaref16_At.l0
      repeat' first
      | (with_reducible exact ih0 _ _ _)
      | (with_reducible exact LeO.refl _)
      | (with_reducible exact LeO.none _)
      | (with_reducible refine LeO.ite ?_ ?_)
      | (with_reducible refine LeO.bind ?_ (fun _ => ?_))
      | exact ih0 _ _ _
      | exact LeO.none _
      | refine LeO.ite ?_ ?_
      | refine LeO.bind ?_ (fun _ => ?_)
theorem dioramaref16_At.mono : ∀ a0 a1 k, LeO (dioramaref16_At.f k a0 a1) (dioramaref16_At.f (k + 1) a0 a1) := by
  intro a0 a1 k
  have ih0 := dioramaref16_At.mono_l k
  unfold dioramaref16_At.f
  repeat' first
      | (with_reducible exact ih0 _ _ _)
      | (with_reducible exact LeO.refl _)
      | (with_reducible exact LeO.none _)
      | (with_reducible refine LeO.ite ?_ ?_)
      | (with_reducible refine LeO.bind ?_ (fun _ => ?_))
      | exact ih0 _ _ _
      | exact LeO.none _
      | refine LeO.ite ?_ ?_
      | refine LeO.bind ?_ (fun _ => ?_)
set_option maxHeartbeats 8000000 in
set_option maxRecDepth 100000 in
theorem dioramaref16_At.calls (k : Nat) (A0 : Option Addr) (c0 : Nat) (l0 : List (S34)) (a1 : Int) (r1 : Int) (r2 : Int) (w : World) (hr0 : Kd.C k34 w A0 l0.length l0) (hc0 : l0.length ≤ c0) (h : dioramaref16_At.f k l0 a1 = some (r1, r2)) :
    Calls Try.prog 24 #[.slice A0 l0.length c0, .int .i64 a1] w fun e w' => e = .returned (.tuple #[.int .i64 r1, .int .i64 r2]) ∧ Drawn0 w w' := by
  have HR0 := Aside0.mk hr0
  have HC0 := Aside0.mk hc0
  clear hr0 hc0
  have H : (dioramaref16_At.l0 k l0 a1 (wrap64 ((l0.length : Int) - 1))) = some (r1, r2) := h
  clear h
  have H' := Aside0.mk H
  clear H
  go_enter Try.func24, Try.ntmps24
  go_wp2
  repeat (go_quiet (fail); try go_wp2)
  go_loopg [6] k (fun kq v6 w' => ∃ (x6_1 : Int), v6 = .int .i64 x6_1 ∧ Aside0 (dioramaref16_At.l0 kq l0 a1 x6_1 = some (r1, r2)) ∧ Aside0 (kq ≤ k) ∧ Drawn0 w w')
  case atStart => exact ⟨(wrap64 ((l0.length : Int) - 1)), (by first | rfl | (simp; done) | (simp [*]; done)), H', ⟨Nat.le_refl _⟩, by repeat (first | exact Drawn0.refl _ | apply Drawn0.step)⟩
  case round =>
    clear H'
    try clear c2
    try clear p2
    obtain ⟨x6_1, rfl, HA, HK1, ⟨m1, rfl⟩⟩ := hrel
    cases gk with
    | zero => exact absurd HA.out (by simp [dioramaref16_At.l0])
    | succ k1 =>
      have H := HA.out
      clear HA
      simp only [dioramaref16_At.l0] at H
      by_cases c3 : x6_1 ≥ 0
      · rw [if_pos c3] at H
        have c3b0 : decide (0 ≤ x6_1) = true := decide_eq_true c3
        clear c3
        by_cases c4 : 0 ≤ x6_1
        · rw [if_pos c4] at H
          have c4b0 : decide (0 ≤ x6_1) = true := decide_eq_true c4
          clear c4
          by_cases c5 : x6_1 < (l0.length : Int)
          · rw [if_pos c5] at H
            have c5b0 : decide (x6_1 < (l0.length : Int)) = true := decide_eq_true c5
            clear c5
            by_cases c6 : ((rd_T34 l0 x6_1).f1) > 0
            · rw [if_pos c6] at H
              have c6b0 : decide (0 < ((rd_T34 l0 x6_1).f1)) = true := decide_eq_true c6
              clear c6
              by_cases c7 : ((rd_T34 l0 x6_1).f0) ≤ a1
              · rw [if_pos c7] at H
                have c7b0 : decide (((rd_T34 l0 x6_1).f0) ≤ a1) = true := decide_eq_true c7
                clear c7
                by_cases c8 : ((rd_T34 l0 x6_1).f0) ≥ 0
                · rw [if_pos c8] at H
                  have c8b0 : decide (0 ≤ ((rd_T34 l0 x6_1).f0)) = true := decide_eq_true c8
                  clear c8
                  by_cases c9 : (wrap64 (a1 - ((rd_T34 l0 x6_1).f0))) < ((rd_T34 l0 x6_1).f1)
                  · rw [if_pos c9] at H
                    have c9b0 : decide ((wrap64 (a1 - ((rd_T34 l0 x6_1).f0))) < ((rd_T34 l0 x6_1).f1)) = true := decide_eq_true c9
                    clear c9
                    simp only [Option.some.injEq, Prod.mk.injEq] at H
                    obtain ⟨rfl, rfl⟩ := H
                    have p411 : 0 ≤ (x6_1 : Int) := of_decide_eq_true (by first | (with_reducible assumption) | assumption)
                    have q411 : x6_1 < (l0.length : Int) := of_decide_eq_true (by first | (with_reducible assumption) | assumption)
                    obtain ⟨ad411, e411, hx411_0, hx411_1, hx411_2⟩ := at_T34 HR0.out x6_1 p411 q411
                    cases e411
                    replace p411 := eq_true p411
                    replace q411 := eq_true q411
                    have p412 : 0 ≤ (x6_1 : Int) := of_decide_eq_true (by first | (with_reducible assumption) | assumption)
                    have q412 : x6_1 < (l0.length : Int) := of_decide_eq_true (by first | (with_reducible assumption) | assumption)
                    obtain ⟨ad412, e412, hx412_0, hx412_1, hx412_2⟩ := at_T34 HR0.out x6_1 p412 q412
                    obtain rfl : ad411 = ad412 := (by injection e412)
                    replace p412 := eq_true p412
                    replace q412 := eq_true q412
                    have p413 : 0 ≤ (x6_1 : Int) := of_decide_eq_true (by first | (with_reducible assumption) | assumption)
                    have q413 : x6_1 < (l0.length : Int) := of_decide_eq_true (by first | (with_reducible assumption) | assumption)
                    obtain ⟨ad413, e413, hx413_0, hx413_1, hx413_2⟩ := at_T34 HR0.out x6_1 p413 q413
                    obtain rfl : ad411 = ad413 := (by injection e413)
                    replace p413 := eq_true p413
                    replace q413 := eq_true q413
                    have p414 : 0 ≤ (x6_1 : Int) := of_decide_eq_true (by first | (with_reducible assumption) | assumption)
                    have q414 : x6_1 < (l0.length : Int) := of_decide_eq_true (by first | (with_reducible assumption) | assumption)
                    obtain ⟨ad414, e414, hx414_0, hx414_1, hx414_2⟩ := at_T34 HR0.out x6_1 p414 q414
                    obtain rfl : ad411 = ad414 := (by injection e414)
                    replace p414 := eq_true p414
                    replace q414 := eq_true q414
                    have p415 : 0 ≤ (x6_1 : Int) := of_decide_eq_true (by first | (with_reducible assumption) | assumption)
                    have q415 : x6_1 < (l0.length : Int) := of_decide_eq_true (by first | (with_reducible assumption) | assumption)
                    obtain ⟨ad415, e415, hx415_0, hx415_1, hx415_2⟩ := at_T34 HR0.out x6_1 p415 q415
                    obtain rfl : ad411 = ad415 := (by injection e415)
                    replace p415 := eq_true p415
                    replace q415 := eq_true q415
                    go_wp2
                    repeat (go_quiet (fail); try go_wp2)
                    go_ret2
                    exact ⟨by first | rfl | (simp; done) | (simp [*]; done), by repeat (first | exact Drawn0.refl _ | apply Drawn0.step)⟩
                  · rw [if_neg c9] at H
                    have c9b0 : decide ((wrap64 (a1 - ((rd_T34 l0 x6_1).f0))) < ((rd_T34 l0 x6_1).f1)) = false := decide_eq_false c9
                    clear c9
                    by_cases c10 : ((rd_T34 l0 x6_1).f0) < 0
                    · rw [if_pos c10] at H
                      have c10b0 : decide (((rd_T34 l0 x6_1).f0) < 0) = true := decide_eq_true c10
                      clear c10
                      by_cases c11 : a1 < (wrap64 (((rd_T34 l0 x6_1).f0) + ((rd_T34 l0 x6_1).f1)))
                      · rw [if_pos c11] at H
                        have c11b0 : decide (a1 < (wrap64 (((rd_T34 l0 x6_1).f0) + ((rd_T34 l0 x6_1).f1)))) = true := decide_eq_true c11
                        clear c11
                        simp only [Option.some.injEq, Prod.mk.injEq] at H
                        obtain ⟨rfl, rfl⟩ := H
                        have p411 : 0 ≤ (x6_1 : Int) := of_decide_eq_true (by first | (with_reducible assumption) | assumption)
                        have q411 : x6_1 < (l0.length : Int) := of_decide_eq_true (by first | (with_reducible assumption) | assumption)
                        obtain ⟨ad411, e411, hx411_0, hx411_1, hx411_2⟩ := at_T34 HR0.out x6_1 p411 q411
                        cases e411
                        replace p411 := eq_true p411
                        replace q411 := eq_true q411
                        have p412 : 0 ≤ (x6_1 : Int) := of_decide_eq_true (by first | (with_reducible assumption) | assumption)
                        have q412 : x6_1 < (l0.length : Int) := of_decide_eq_true (by first | (with_reducible assumption) | assumption)
                        obtain ⟨ad412, e412, hx412_0, hx412_1, hx412_2⟩ := at_T34 HR0.out x6_1 p412 q412
                        obtain rfl : ad411 = ad412 := (by injection e412)
                        replace p412 := eq_true p412
                        replace q412 := eq_true q412
                        have p413 : 0 ≤ (x6_1 : Int) := of_decide_eq_true (by first | (with_reducible assumption) | assumption)
                        have q413 : x6_1 < (l0.length : Int) := of_decide_eq_true (by first | (with_reducible assumption) | assumption)
                        obtain ⟨ad413, e413, hx413_0, hx413_1, hx413_2⟩ := at_T34 HR0.out x6_1 p413 q413
                        obtain rfl : ad411 = ad413 := (by injection e413)
                        replace p413 := eq_true p413
                        replace q413 := eq_true q413
                        have p414 : 0 ≤ (x6_1 : Int) := of_decide_eq_true (by first | (with_reducible assumption) | assumption)
                        have q414 : x6_1 < (l0.length : Int) := of_decide_eq_true (by first | (with_reducible assumption) | assumption)
                        obtain ⟨ad414, e414, hx414_0, hx414_1, hx414_2⟩ := at_T34 HR0.out x6_1 p414 q414
                        obtain rfl : ad411 = ad414 := (by injection e414)
                        replace p414 := eq_true p414
                        replace q414 := eq_true q414
                        have p415 : 0 ≤ (x6_1 : Int) := of_decide_eq_true (by first | (with_reducible assumption) | assumption)
                        have q415 : x6_1 < (l0.length : Int) := of_decide_eq_true (by first | (with_reducible assumption) | assumption)
                        obtain ⟨ad415, e415, hx415_0, hx415_1, hx415_2⟩ := at_T34 HR0.out x6_1 p415 q415
                        obtain rfl : ad411 = ad415 := (by injection e415)
                        replace p415 := eq_true p415
                        replace q415 := eq_true q415
                        have p416 : 0 ≤ (x6_1 : Int) := of_decide_eq_true (by first | (with_reducible assumption) | assumption)
                        have q416 : x6_1 < (l0.length : Int) := of_decide_eq_true (by first | (with_reducible assumption) | assumption)
                        obtain ⟨ad416, e416, hx416_0, hx416_1, hx416_2⟩ := at_T34 HR0.out x6_1 p416 q416
                        obtain rfl : ad411 = ad416 := (by injection e416)
                        replace p416 := eq_true p416
                        replace q416 := eq_true q416
                        have p417 : 0 ≤ (x6_1 : Int) := of_decide_eq_true (by first | (with_reducible assumption) | assumption)
                        have q417 : x6_1 < (l0.length : Int) := of_decide_eq_true (by first | (with_reducible assumption) | assumption)
                        obtain ⟨ad417, e417, hx417_0, hx417_1, hx417_2⟩ := at_T34 HR0.out x6_1 p417 q417
                        obtain rfl : ad411 = ad417 := (by injection e417)
                        replace p417 := eq_true p417
                        replace q417 := eq_true q417
                        have p418 : 0 ≤ (x6_1 : Int) := of_decide_eq_true (by first | (with_reducible assumption) | assumption)
                        have q418 : x6_1 < (l0.length : Int) := of_decide_eq_true (by first | (with_reducible assumption) | assumption)
                        obtain ⟨ad418, e418, hx418_0, hx418_1, hx418_2⟩ := at_T34 HR0.out x6_1 p418 q418
                        obtain rfl : ad411 = ad418 := (by injection e418)
                        replace p418 := eq_true p418
                        replace q418 := eq_true q418
                        go_wp2
                        repeat (go_quiet (fail); try go_wp2)
                        go_ret2
                        exact ⟨by first | rfl | (simp; done) | (simp [*]; done), by repeat (first | exact Drawn0.refl _ | apply Drawn0.step)⟩
                      · rw [if_neg c11] at H
                        have c11b0 : decide (a1 < (wrap64 (((rd_T34 l0 x6_1).f0) + ((rd_T34 l0 x6_1).f1)))) = false := decide_eq_false c11
                        clear c11
                        have H' := Aside0.mk H
                        clear H
                        have p411 : 0 ≤ (x6_1 : Int) := of_decide_eq_true (by first | (with_reducible assumption) | assumption)
                        have q411 : x6_1 < (l0.length : Int) := of_decide_eq_true (by first | (with_reducible assumption) | assumption)
                        obtain ⟨ad411, e411, hx411_0, hx411_1, hx411_2⟩ := at_T34 HR0.out x6_1 p411 q411
                        cases e411
                        replace p411 := eq_true p411
                        replace q411 := eq_true q411
                        have p412 : 0 ≤ (x6_1 : Int) := of_decide_eq_true (by first | (with_reducible assumption) | assumption)
                        have q412 : x6_1 < (l0.length : Int) := of_decide_eq_true (by first | (with_reducible assumption) | assumption)
                        obtain ⟨ad412, e412, hx412_0, hx412_1, hx412_2⟩ := at_T34 HR0.out x6_1 p412 q412
                        obtain rfl : ad411 = ad412 := (by injection e412)
                        replace p412 := eq_true p412
                        replace q412 := eq_true q412
                        have p413 : 0 ≤ (x6_1 : Int) := of_decide_eq_true (by first | (with_reducible assumption) | assumption)
                        have q413 : x6_1 < (l0.length : Int) := of_decide_eq_true (by first | (with_reducible assumption) | assumption)
                        obtain ⟨ad413, e413, hx413_0, hx413_1, hx413_2⟩ := at_T34 HR0.out x6_1 p413 q413
                        obtain rfl : ad411 = ad413 := (by injection e413)
                        replace p413 := eq_true p413
                        replace q413 := eq_true q413
                        have p414 : 0 ≤ (x6_1 : Int) := of_decide_eq_true (by first | (with_reducible assumption) | assumption)
                        have q414 : x6_1 < (l0.length : Int) := of_decide_eq_true (by first | (with_reducible assumption) | assumption)
                        obtain ⟨ad414, e414, hx414_0, hx414_1, hx414_2⟩ := at_T34 HR0.out x6_1 p414 q414
                        obtain rfl : ad411 = ad414 := (by injection e414)
                        replace p414 := eq_true p414
                        replace q414 := eq_true q414
                        have p415 : 0 ≤ (x6_1 : Int) := of_decide_eq_true (by first | (with_reducible assumption) | assumption)
                        have q415 : x6_1 < (l0.length : Int) := of_decide_eq_true (by first | (with_reducible assumption) | assumption)
                        obtain ⟨ad415, e415, hx415_0, hx415_1, hx415_2⟩ := at_T34 HR0.out x6_1 p415 q415
                        obtain rfl : ad411 = ad415 := (by injection e415)
                        replace p415 := eq_true p415
                        replace q415 := eq_true q415
                        have p416 : 0 ≤ (x6_1 : Int) := of_decide_eq_true (by first | (with_reducible assumption) | assumption)
                        have q416 : x6_1 < (l0.length : Int) := of_decide_eq_true (by first | (with_reducible assumption) | assumption)
                        obtain ⟨ad416, e416, hx416_0, hx416_1, hx416_2⟩ := at_T34 HR0.out x6_1 p416 q416
                        obtain rfl : ad411 = ad416 := (by injection e416)
                        replace p416 := eq_true p416
                        replace q416 := eq_true q416
                        have p417 : 0 ≤ (x6_1 : Int) := of_decide_eq_true (by first | (with_reducible assumption) | assumption)
                        have q417 : x6_1 < (l0.length : Int) := of_decide_eq_true (by first | (with_reducible assumption) | assumption)
                        obtain ⟨ad417, e417, hx417_0, hx417_1, hx417_2⟩ := at_T34 HR0.out x6_1 p417 q417
                        obtain rfl : ad411 = ad417 := (by injection e417)
                        replace p417 := eq_true p417
                        replace q417 := eq_true q417
                        have p418 : 0 ≤ (x6_1 : Int) := of_decide_eq_true (by first | (with_reducible assumption) | assumption)
                        have q418 : x6_1 < (l0.length : Int) := of_decide_eq_true (by first | (with_reducible assumption) | assumption)
                        obtain ⟨ad418, e418, hx418_0, hx418_1, hx418_2⟩ := at_T34 HR0.out x6_1 p418 q418
                        obtain rfl : ad411 = ad418 := (by injection e418)
                        replace p418 := eq_true p418
                        replace q418 := eq_true q418
                        go_wp2
                        repeat (go_quiet (fail); try go_wp2)
                        go_roundg k1
                        case measure => have := HK1.out; omega
                        case rel => exact ⟨(wrap64 (x6_1 - 1)), (by first | rfl | (simp; done) | (simp [*]; done)), H', ⟨by have := HK1.out; omega⟩, by repeat (first | exact Drawn0.refl _ | apply Drawn0.step)⟩
                    · rw [if_neg c10] at H
                      have c10b0 : decide (((rd_T34 l0 x6_1).f0) < 0) = false := decide_eq_false c10
                      clear c10
                      have H' := Aside0.mk H
                      clear H
                      have p411 : 0 ≤ (x6_1 : Int) := of_decide_eq_true (by first | (with_reducible assumption) | assumption)
                      have q411 : x6_1 < (l0.length : Int) := of_decide_eq_true (by first | (with_reducible assumption) | assumption)
                      obtain ⟨ad411, e411, hx411_0, hx411_1, hx411_2⟩ := at_T34 HR0.out x6_1 p411 q411
                      cases e411
                      replace p411 := eq_true p411
                      replace q411 := eq_true q411
                      have p412 : 0 ≤ (x6_1 : Int) := of_decide_eq_true (by first | (with_reducible assumption) | assumption)
                      have q412 : x6_1 < (l0.length : Int) := of_decide_eq_true (by first | (with_reducible assumption) | assumption)
                      obtain ⟨ad412, e412, hx412_0, hx412_1, hx412_2⟩ := at_T34 HR0.out x6_1 p412 q412
                      obtain rfl : ad411 = ad412 := (by injection e412)
                      replace p412 := eq_true p412
                      replace q412 := eq_true q412
                      have p413 : 0 ≤ (x6_1 : Int) := of_decide_eq_true (by first | (with_reducible assumption) | assumption)
                      have q413 : x6_1 < (l0.length : Int) := of_decide_eq_true (by first | (with_reducible assumption) | assumption)
                      obtain ⟨ad413, e413, hx413_0, hx413_1, hx413_2⟩ := at_T34 HR0.out x6_1 p413 q413
                      obtain rfl : ad411 = ad413 := (by injection e413)
                      replace p413 := eq_true p413
                      replace q413 := eq_true q413
                      have p414 : 0 ≤ (x6_1 : Int) := of_decide_eq_true (by first | (with_reducible assumption) | assumption)
                      have q414 : x6_1 < (l0.length : Int) := of_decide_eq_true (by first | (with_reducible assumption) | assumption)
                      obtain ⟨ad414, e414, hx414_0, hx414_1, hx414_2⟩ := at_T34 HR0.out x6_1 p414 q414
                      obtain rfl : ad411 = ad414 := (by injection e414)
                      replace p414 := eq_true p414
                      replace q414 := eq_true q414
                      have p415 : 0 ≤ (x6_1 : Int) := of_decide_eq_true (by first | (with_reducible assumption) | assumption)
                      have q415 : x6_1 < (l0.length : Int) := of_decide_eq_true (by first | (with_reducible assumption) | assumption)
                      obtain ⟨ad415, e415, hx415_0, hx415_1, hx415_2⟩ := at_T34 HR0.out x6_1 p415 q415
                      obtain rfl : ad411 = ad415 := (by injection e415)
                      replace p415 := eq_true p415
                      replace q415 := eq_true q415
                      have p416 : 0 ≤ (x6_1 : Int) := of_decide_eq_true (by first | (with_reducible assumption) | assumption)
                      have q416 : x6_1 < (l0.length : Int) := of_decide_eq_true (by first | (with_reducible assumption) | assumption)
                      obtain ⟨ad416, e416, hx416_0, hx416_1, hx416_2⟩ := at_T34 HR0.out x6_1 p416 q416
                      obtain rfl : ad411 = ad416 := (by injection e416)
                      replace p416 := eq_true p416
                      replace q416 := eq_true q416
                      go_wp2
                      repeat (go_quiet (fail); try go_wp2)
                      go_roundg k1
                      case measure => have := HK1.out; omega
                      case rel => exact ⟨(wrap64 (x6_1 - 1)), (by first | rfl | (simp; done) | (simp [*]; done)), H', ⟨by have := HK1.out; omega⟩, by repeat (first | exact Drawn0.refl _ | apply Drawn0.step)⟩
                · rw [if_neg c8] at H
                  have c8b0 : decide (0 ≤ ((rd_T34 l0 x6_1).f0)) = false := decide_eq_false c8
                  clear c8
                  by_cases c12 : ((rd_T34 l0 x6_1).f0) < 0
                  · rw [if_pos c12] at H
                    have c12b0 : decide (((rd_T34 l0 x6_1).f0) < 0) = true := decide_eq_true c12
                    clear c12
                    by_cases c13 : a1 < (wrap64 (((rd_T34 l0 x6_1).f0) + ((rd_T34 l0 x6_1).f1)))
                    · rw [if_pos c13] at H
                      have c13b0 : decide (a1 < (wrap64 (((rd_T34 l0 x6_1).f0) + ((rd_T34 l0 x6_1).f1)))) = true := decide_eq_true c13
                      clear c13
                      simp only [Option.some.injEq, Prod.mk.injEq] at H
                      obtain ⟨rfl, rfl⟩ := H
                      have p411 : 0 ≤ (x6_1 : Int) := of_decide_eq_true (by first | (with_reducible assumption) | assumption)
                      have q411 : x6_1 < (l0.length : Int) := of_decide_eq_true (by first | (with_reducible assumption) | assumption)
                      obtain ⟨ad411, e411, hx411_0, hx411_1, hx411_2⟩ := at_T34 HR0.out x6_1 p411 q411
                      cases e411
                      replace p411 := eq_true p411
                      replace q411 := eq_true q411
                      have p412 : 0 ≤ (x6_1 : Int) := of_decide_eq_true (by first | (with_reducible assumption) | assumption)
                      have q412 : x6_1 < (l0.length : Int) := of_decide_eq_true (by first | (with_reducible assumption) | assumption)
                      obtain ⟨ad412, e412, hx412_0, hx412_1, hx412_2⟩ := at_T34 HR0.out x6_1 p412 q412
                      obtain rfl : ad411 = ad412 := (by injection e412)
                      replace p412 := eq_true p412
                      replace q412 := eq_true q412
                      have p413 : 0 ≤ (x6_1 : Int) := of_decide_eq_true (by first | (with_reducible assumption) | assumption)
                      have q413 : x6_1 < (l0.length : Int) := of_decide_eq_true (by first | (with_reducible assumption) | assumption)
                      obtain ⟨ad413, e413, hx413_0, hx413_1, hx413_2⟩ := at_T34 HR0.out x6_1 p413 q413
                      obtain rfl : ad411 = ad413 := (by injection e413)
                      replace p413 := eq_true p413
                      replace q413 := eq_true q413
                      have p419 : 0 ≤ (x6_1 : Int) := of_decide_eq_true (by first | (with_reducible assumption) | assumption)
                      have q419 : x6_1 < (l0.length : Int) := of_decide_eq_true (by first | (with_reducible assumption) | assumption)
                      obtain ⟨ad419, e419, hx419_0, hx419_1, hx419_2⟩ := at_T34 HR0.out x6_1 p419 q419
                      obtain rfl : ad411 = ad419 := (by injection e419)
                      replace p419 := eq_true p419
                      replace q419 := eq_true q419
                      have p420 : 0 ≤ (x6_1 : Int) := of_decide_eq_true (by first | (with_reducible assumption) | assumption)
                      have q420 : x6_1 < (l0.length : Int) := of_decide_eq_true (by first | (with_reducible assumption) | assumption)
                      obtain ⟨ad420, e420, hx420_0, hx420_1, hx420_2⟩ := at_T34 HR0.out x6_1 p420 q420
                      obtain rfl : ad411 = ad420 := (by injection e420)
                      replace p420 := eq_true p420
                      replace q420 := eq_true q420
                      have p421 : 0 ≤ (x6_1 : Int) := of_decide_eq_true (by first | (with_reducible assumption) | assumption)
                      have q421 : x6_1 < (l0.length : Int) := of_decide_eq_true (by first | (with_reducible assumption) | assumption)
                      obtain ⟨ad421, e421, hx421_0, hx421_1, hx421_2⟩ := at_T34 HR0.out x6_1 p421 q421
                      obtain rfl : ad411 = ad421 := (by injection e421)
                      replace p421 := eq_true p421
                      replace q421 := eq_true q421
                      go_wp2
                      repeat (go_quiet (fail); try go_wp2)
                      go_ret2
                      exact ⟨by first | rfl | (simp; done) | (simp [*]; done), by repeat (first | exact Drawn0.refl _ | apply Drawn0.step)⟩
                    · rw [if_neg c13] at H
                      have c13b0 : decide (a1 < (wrap64 (((rd_T34 l0 x6_1).f0) + ((rd_T34 l0 x6_1).f1)))) = false := decide_eq_false c13
                      clear c13
                      have H' := Aside0.mk H
                      clear H
                      have p411 : 0 ≤ (x6_1 : Int) := of_decide_eq_true (by first | (with_reducible assumption) | assumption)
                      have q411 : x6_1 < (l0.length : Int) := of_decide_eq_true (by first | (with_reducible assumption) | assumption)
                      obtain ⟨ad411, e411, hx411_0, hx411_1, hx411_2⟩ := at_T34 HR0.out x6_1 p411 q411
                      cases e411
                      replace p411 := eq_true p411
                      replace q411 := eq_true q411
                      have p412 : 0 ≤ (x6_1 : Int) := of_decide_eq_true (by first | (with_reducible assumption) | assumption)
                      have q412 : x6_1 < (l0.length : Int) := of_decide_eq_true (by first | (with_reducible assumption) | assumption)
                      obtain ⟨ad412, e412, hx412_0, hx412_1, hx412_2⟩ := at_T34 HR0.out x6_1 p412 q412
                      obtain rfl : ad411 = ad412 := (by injection e412)
                      replace p412 := eq_true p412
                      replace q412 := eq_true q412
                      have p413 : 0 ≤ (x6_1 : Int) := of_decide_eq_true (by first | (with_reducible assumption) | assumption)
                      have q413 : x6_1 < (l0.length : Int) := of_decide_eq_true (by first | (with_reducible assumption) | assumption)
                      obtain ⟨ad413, e413, hx413_0, hx413_1, hx413_2⟩ := at_T34 HR0.out x6_1 p413 q413
                      obtain rfl : ad411 = ad413 := (by injection e413)
                      replace p413 := eq_true p413
                      replace q413 := eq_true q413
                      have p419 : 0 ≤ (x6_1 : Int) := of_decide_eq_true (by first | (with_reducible assumption) | assumption)
                      have q419 : x6_1 < (l0.length : Int) := of_decide_eq_true (by first | (with_reducible assumption) | assumption)
                      obtain ⟨ad419, e419, hx419_0, hx419_1, hx419_2⟩ := at_T34 HR0.out x6_1 p419 q419
                      obtain rfl : ad411 = ad419 := (by injection e419)
                      replace p419 := eq_true p419
                      replace q419 := eq_true q419
                      have p420 : 0 ≤ (x6_1 : Int) := of_decide_eq_true (by first | (with_reducible assumption) | assumption)
                      have q420 : x6_1 < (l0.length : Int) := of_decide_eq_true (by first | (with_reducible assumption) | assumption)
                      obtain ⟨ad420, e420, hx420_0, hx420_1, hx420_2⟩ := at_T34 HR0.out x6_1 p420 q420
                      obtain rfl : ad411 = ad420 := (by injection e420)
                      replace p420 := eq_true p420
                      replace q420 := eq_true q420
                      have p421 : 0 ≤ (x6_1 : Int) := of_decide_eq_true (by first | (with_reducible assumption) | assumption)
                      have q421 : x6_1 < (l0.length : Int) := of_decide_eq_true (by first | (with_reducible assumption) | assumption)
                      obtain ⟨ad421, e421, hx421_0, hx421_1, hx421_2⟩ := at_T34 HR0.out x6_1 p421 q421
                      obtain rfl : ad411 = ad421 := (by injection e421)
                      replace p421 := eq_true p421
                      replace q421 := eq_true q421
                      go_wp2
                      repeat (go_quiet (fail); try go_wp2)
                      go_roundg k1
                      case measure => have := HK1.out; omega
                      case rel => exact ⟨(wrap64 (x6_1 - 1)), (by first | rfl | (simp; done) | (simp [*]; done)), H', ⟨by have := HK1.out; omega⟩, by repeat (first | exact Drawn0.refl _ | apply Drawn0.step)⟩
                  · rw [if_neg c12] at H
                    have c12b0 : decide (((rd_T34 l0 x6_1).f0) < 0) = false := decide_eq_false c12
                    clear c12
                    have H' := Aside0.mk H
                    clear H
                    have p411 : 0 ≤ (x6_1 : Int) := of_decide_eq_true (by first | (with_reducible assumption) | assumption)
                    have q411 : x6_1 < (l0.length : Int) := of_decide_eq_true (by first | (with_reducible assumption) | assumption)
                    obtain ⟨ad411, e411, hx411_0, hx411_1, hx411_2⟩ := at_T34 HR0.out x6_1 p411 q411
                    cases e411
                    replace p411 := eq_true p411
                    replace q411 := eq_true q411
                    have p412 : 0 ≤ (x6_1 : Int) := of_decide_eq_true (by first | (with_reducible assumption) | assumption)
                    have q412 : x6_1 < (l0.length : Int) := of_decide_eq_true (by first | (with_reducible assumption) | assumption)
                    obtain ⟨ad412, e412, hx412_0, hx412_1, hx412_2⟩ := at_T34 HR0.out x6_1 p412 q412
                    obtain rfl : ad411 = ad412 := (by injection e412)
                    replace p412 := eq_true p412
                    replace q412 := eq_true q412
                    have p413 : 0 ≤ (x6_1 : Int) := of_decide_eq_true (by first | (with_reducible assumption) | assumption)
                    have q413 : x6_1 < (l0.length : Int) := of_decide_eq_true (by first | (with_reducible assumption) | assumption)
                    obtain ⟨ad413, e413, hx413_0, hx413_1, hx413_2⟩ := at_T34 HR0.out x6_1 p413 q413
                    obtain rfl : ad411 = ad413 := (by injection e413)
                    replace p413 := eq_true p413
                    replace q413 := eq_true q413
                    have p419 : 0 ≤ (x6_1 : Int) := of_decide_eq_true (by first | (with_reducible assumption) | assumption)
                    have q419 : x6_1 < (l0.length : Int) := of_decide_eq_true (by first | (with_reducible assumption) | assumption)
                    obtain ⟨ad419, e419, hx419_0, hx419_1, hx419_2⟩ := at_T34 HR0.out x6_1 p419 q419
                    obtain rfl : ad411 = ad419 := (by injection e419)
                    replace p419 := eq_true p419
                    replace q419 := eq_true q419
                    go_wp2
                    repeat (go_quiet (fail); try go_wp2)
                    go_roundg k1
                    case measure => have := HK1.out; omega
                    case rel => exact ⟨(wrap64 (x6_1 - 1)), (by first | rfl | (simp; done) | (simp [*]; done)), H', ⟨by have := HK1.out; omega⟩, by repeat (first | exact Drawn0.refl _ | apply Drawn0.step)⟩
              · rw [if_neg c7] at H
                have c7b0 : decide (((rd_T34 l0 x6_1).f0) ≤ a1) = false := decide_eq_false c7
                clear c7
                have H' := Aside0.mk H
                clear H
                have p411 : 0 ≤ (x6_1 : Int) := of_decide_eq_true (by first | (with_reducible assumption) | assumption)
                have q411 : x6_1 < (l0.length : Int) := of_decide_eq_true (by first | (with_reducible assumption) | assumption)
                obtain ⟨ad411, e411, hx411_0, hx411_1, hx411_2⟩ := at_T34 HR0.out x6_1 p411 q411
                cases e411
                replace p411 := eq_true p411
                replace q411 := eq_true q411
                have p412 : 0 ≤ (x6_1 : Int) := of_decide_eq_true (by first | (with_reducible assumption) | assumption)
                have q412 : x6_1 < (l0.length : Int) := of_decide_eq_true (by first | (with_reducible assumption) | assumption)
                obtain ⟨ad412, e412, hx412_0, hx412_1, hx412_2⟩ := at_T34 HR0.out x6_1 p412 q412
                obtain rfl : ad411 = ad412 := (by injection e412)
                replace p412 := eq_true p412
                replace q412 := eq_true q412
                go_wp2
                repeat (go_quiet (fail); try go_wp2)
                go_roundg k1
                case measure => have := HK1.out; omega
                case rel => exact ⟨(wrap64 (x6_1 - 1)), (by first | rfl | (simp; done) | (simp [*]; done)), H', ⟨by have := HK1.out; omega⟩, by repeat (first | exact Drawn0.refl _ | apply Drawn0.step)⟩
            · rw [if_neg c6] at H
              have c6b0 : decide (0 < ((rd_T34 l0 x6_1).f1)) = false := decide_eq_false c6
              clear c6
              have H' := Aside0.mk H
              clear H
              have p411 : 0 ≤ (x6_1 : Int) := of_decide_eq_true (by first | (with_reducible assumption) | assumption)
              have q411 : x6_1 < (l0.length : Int) := of_decide_eq_true (by first | (with_reducible assumption) | assumption)
              obtain ⟨ad411, e411, hx411_0, hx411_1, hx411_2⟩ := at_T34 HR0.out x6_1 p411 q411
              cases e411
              replace p411 := eq_true p411
              replace q411 := eq_true q411
              go_wp2
              repeat (go_quiet (fail); try go_wp2)
              go_roundg k1
              case measure => have := HK1.out; omega
              case rel => exact ⟨(wrap64 (x6_1 - 1)), (by first | rfl | (simp; done) | (simp [*]; done)), H', ⟨by have := HK1.out; omega⟩, by repeat (first | exact Drawn0.refl _ | apply Drawn0.step)⟩
          · rw [if_neg c5] at H
            exact absurd H (by simp)
        · rw [if_neg c4] at H
          exact absurd H (by simp)
      · rw [if_neg c3] at H
        have c3b0 : decide (0 ≤ x6_1) = false := decide_eq_false c3
        clear c3
        simp only [Option.some.injEq, Prod.mk.injEq] at H
        obtain ⟨rfl, rfl⟩ := H
        go_wp2
        repeat (go_quiet (fail); try go_wp2)
        go_ret2
        exact ⟨by first | rfl | (simp; done) | (simp [*]; done), by repeat (first | exact Drawn0.refl _ | apply Drawn0.step)⟩

end Go.Proofs.Ytdiemkeflmflaaa.QSound
