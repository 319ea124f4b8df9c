/- Part of a proof: functions of the program as Lean functions, and that the machine's calls come to them. Made by a program of this session (wip/mp). -/
import Derived.Test.YtlhdfdedhdcmiaaQBitsx0
import Derived.Test.YtlhdfdedhdcmiaaQBitsx3
namespace Go.Proofs.Ytlhdfdedhdcmiaa.QBits
open Go.RowKit Go.Proofs.YtlhdfdedhdcmiaaW.PrintWords Go.Proofs.YtlhdfdedhdcmiaaW.PrintLast Go.Proofs.YtlhdfdedhdcmiaaW.PrintMore
attribute [local go_sem] max2_int min2_int max_two min_two max_three min_three max_four min_four   -- for this text's walks alone
set_option linter.unusedVariables false
set_option linter.unusedSimpArgs false

/-! ### bits_Vint: function 27 -/
def bits_Vint.l0 : Nat → Int → Int → List Int → Int → Int → Option (Int × Int × Bool × Int)
  | 0, _, _, _, _, _ => none
  | k + 1, x4, x5, x47, x48, x49 => if x49 < x48 then (if 0 ≤ x49 then (if x49 < (x47.length : Int) then (bits_Vint.l0 k (Go.bits .or .i64 (wrap64 (x4 * 256)) (wrap64 (rd x47 x49))) x5 x47 x48 (wrap64 (x49 + 1))) else (none)) else (none)) else ((bits_all.f x5).bind fun t113 => (if x4 = t113 then (some (0, x5, true, 0)) else (some (x4, x5, false, 0))))
def bits_Vint.f (k : Nat) (l0 : List Int) (a1 : Int) : Option (Int × Int × Bool × Int) := if a1 < 0 then (some (0, 0, false, 1)) else (if a1 ≥ (l0.length : Int) then (some (0, 0, false, 3)) else (if 0 ≤ a1 then (if a1 < (l0.length : Int) then (if (rd l0 a1) = 0 then (some (0, 0, false, 4)) else ((bits_LeadingZeros8.f (rd l0 a1)).bind fun t106 => (if (wrap64 ((l0.length : Int) - a1)) < (wrap64 (t106 + 1)) then (some (0, 0, false, 3)) else (if 0 ≤ (wrap64 (t106 + 1)) then (if 0 ≤ (wrap64 (a1 + 1)) then (if (wrap64 (a1 + 1)) ≤ (wrap64 (a1 + (wrap64 (t106 + 1)))) then (if (wrap64 (a1 + (wrap64 (t106 + 1)))) ≤ (l0.length : Int) then ((some ((l0.take ((wrap64 (a1 + (wrap64 (t106 + 1)))) : Int).toNat).drop ((wrap64 (a1 + 1)) : Int).toNat : List Int)).bind fun y108 => (bits_Vint.l0 k (Go.bits .and .i64 (wrap64 (rd l0 a1)) (shr .i64 255 (wrap64 (t106 + 1)))) (wrap64 (t106 + 1)) y108 (y108.length : Int) 0)) else (none)) else (none)) else (none)) else (none))))) else (none)) else (none)))
theorem bits_Vint.mono_l : ∀ k, (∀ y0 y1 y2 y3 y4, LeO (bits_Vint.l0 k y0 y1 y2 y3 y4) (bits_Vint.l0 (k + 1) y0 y1 y2 y3 y4))
  | 0 => fun _ _ _ _ _ r h => by simp [bits_Vint.l0] at h
  | k + 1 => by
    have ih0 := bits_Vint.mono_l k
    · intro y0 y1 y2 y3 y4
      unfold bits_Vint.l0
      repeat' first
      | (with_reducible exact ih0 _ _ _ _ _)
      | (with_reducible exact LeO.refl _)
      | (with_reducible exact LeO.none _)
      | (with_reducible refine LeO.ite ?_ ?_)
      | (with_reducible refine LeO.bind ?_ (fun _ => ?_))
      | exact ih0 _ _ _ _ _
      | exact LeO.none _
      | refine LeO.ite ?_ ?_
      | refine LeO.bind ?_ (fun _ => ?_)
theorem bits_Vint.mono : ∀ a0 a1 k, LeO (bits_Vint.f k a0 a1) (bits_Vint.f (k + 1) a0 a1) := by
  intro a0 a1 k
  have ih0 := bits_Vint.mono_l k
  unfold bits_Vint.f
  repeat' first
      | (with_reducible exact ih0 _ _ _ _ _)
      | (with_reducible exact LeO.refl _)
      | (with_reducible exact LeO.none _)
      | (with_reducible refine LeO.ite ?_ ?_)
      | (with_reducible refine LeO.bind ?_ (fun _ => ?_))
      | exact ih0 _ _ _ _ _
      | exact LeO.none _
      | refine LeO.ite ?_ ?_
      | refine LeO.bind ?_ (fun _ => ?_)
set_option maxHeartbeats 8000000 in
set_option maxRecDepth 100000 in
theorem bits_Vint.calls (k : Nat) (A0 : Option Addr) (c0 : Nat) (l0 : List Int) (a1 : Int) (r1 : Int) (r2 : Int) (r3 : Bool) (r4 : Int) (w : World) (hr0 : Kd.C (Kd.int .u8) w A0 l0.length l0) (hc0 : l0.length ≤ c0) (h : bits_Vint.f k l0 a1 = some (r1, r2, r3, r4)) :
    Calls Try.prog 27 #[.slice A0 l0.length c0, .int .i64 a1] w fun e w' => e = .returned (.tuple #[.int .i64 r1, .int .i64 r2, .bool r3, .int .i64 r4]) ∧ Drawn0 w w' := by
  have HR0 := Aside0.mk hr0
  have HC0 := Aside0.mk hc0
  clear hr0 hc0
  have H : (if a1 < 0 then (some (0, 0, false, 1)) else (if a1 ≥ (l0.length : Int) then (some (0, 0, false, 3)) else (if 0 ≤ a1 then (if a1 < (l0.length : Int) then (if (rd l0 a1) = 0 then (some (0, 0, false, 4)) else ((bits_LeadingZeros8.f (rd l0 a1)).bind fun t106 => (if (wrap64 ((l0.length : Int) - a1)) < (wrap64 (t106 + 1)) then (some (0, 0, false, 3)) else (if 0 ≤ (wrap64 (t106 + 1)) then (if 0 ≤ (wrap64 (a1 + 1)) then (if (wrap64 (a1 + 1)) ≤ (wrap64 (a1 + (wrap64 (t106 + 1)))) then (if (wrap64 (a1 + (wrap64 (t106 + 1)))) ≤ (l0.length : Int) then ((some ((l0.take ((wrap64 (a1 + (wrap64 (t106 + 1)))) : Int).toNat).drop ((wrap64 (a1 + 1)) : Int).toNat : List Int)).bind fun y108 => (bits_Vint.l0 k (Go.bits .and .i64 (wrap64 (rd l0 a1)) (shr .i64 255 (wrap64 (t106 + 1)))) (wrap64 (t106 + 1)) y108 (y108.length : Int) 0)) else (none)) else (none)) else (none)) else (none))))) else (none)) else (none)))) = some (r1, r2, r3, r4) := h
  clear h
  by_cases c3 : a1 < 0
  · rw [if_pos c3] at H
    have c3b0 : decide (a1 < 0) = true := decide_eq_true c3
    clear c3
    simp only [Option.some.injEq, Prod.mk.injEq] at H
    obtain ⟨rfl, rfl, rfl, rfl⟩ := H
    go_enter Try.func27, Try.ntmps27
    go_wp2
    repeat (go_quiet (fail); try go_wp2)
    refine bodyPost_ret (results_list (rs := [.tmp 4, .tmp 5, .tmp 6, .tmp 7]) rfl (by simp) (.tmp (.tmp (.tmp (.tmp .nil))))) rfl ?_
    exact ⟨by first | rfl | (simp; done) | (simp [*]; done), by repeat (first | exact Drawn0.refl _ | apply Drawn0.step)⟩
  · rw [if_neg c3] at H
    have c3b0 : decide (a1 < 0) = false := decide_eq_false c3
    clear c3
    by_cases c4 : a1 ≥ (l0.length : Int)
    · rw [if_pos c4] at H
      have c4b0 : decide ((l0.length : Int) ≤ a1) = true := decide_eq_true c4
      clear c4
      simp only [Option.some.injEq, Prod.mk.injEq] at H
      obtain ⟨rfl, rfl, rfl, rfl⟩ := H
      go_enter Try.func27, Try.ntmps27
      go_wp2
      repeat (go_quiet (fail); try go_wp2)
      refine bodyPost_ret (results_list (rs := [.tmp 4, .tmp 5, .tmp 6, .tmp 7]) rfl (by simp) (.tmp (.tmp (.tmp (.tmp .nil))))) rfl ?_
      exact ⟨by first | rfl | (simp; done) | (simp [*]; done), by repeat (first | exact Drawn0.refl _ | apply Drawn0.step)⟩
    · rw [if_neg c4] at H
      have c4b0 : decide ((l0.length : Int) ≤ a1) = false := decide_eq_false c4
      clear c4
      by_cases c5 : 0 ≤ a1
      · rw [if_pos c5] at H
        have c5b0 : decide (0 ≤ a1) = true := decide_eq_true c5
        clear c5
        by_cases c6 : a1 < (l0.length : Int)
        · rw [if_pos c6] at H
          have c6b0 : decide (a1 < (l0.length : Int)) = true := decide_eq_true c6
          clear c6
          by_cases c7 : (rd l0 a1) = 0
          · rw [if_pos c7] at H
            have c7b0 : ((rd l0 a1) == 0) = true := beq_iff_eq.mpr c7
            have c7b1 : ((rd l0 a1) != 0) = false := bne_eq_false_iff_eq.mpr c7
            clear c7
            simp only [Option.some.injEq, Prod.mk.injEq] at H
            obtain ⟨rfl, rfl, rfl, rfl⟩ := H
            have p104 : 0 ≤ (a1 : Int) := of_decide_eq_true (by first | (with_reducible assumption) | assumption)
            have q104 : a1 < (l0.length : Int) := of_decide_eq_true (by first | (with_reducible assumption) | assumption)
            obtain ⟨ad104, e104, hx104_0⟩ := Kd.at_int HR0.out a1 p104 q104
            cases e104
            replace p104 := eq_true p104
            replace q104 := eq_true q104
            go_enter Try.func27, Try.ntmps27
            go_wp2
            repeat (go_quiet (fail); try go_wp2)
            refine bodyPost_ret (results_list (rs := [.tmp 4, .tmp 5, .tmp 6, .tmp 7]) rfl (by simp) (.tmp (.tmp (.tmp (.tmp .nil))))) rfl ?_
            exact ⟨by first | rfl | (simp; done) | (simp [*]; done), by repeat (first | exact Drawn0.refl _ | apply Drawn0.step)⟩
          · rw [if_neg c7] at H
            have c7b0 : ((rd l0 a1) == 0) = false := beq_eq_false_iff_ne.mpr c7
            have c7b1 : ((rd l0 a1) != 0) = true := bne_iff_ne.mpr c7
            replace H := Option.bind_eq_some_iff.mp H
            obtain ⟨t106, A80, H⟩ := H
            replace H : (if (wrap64 ((l0.length : Int) - a1)) < (wrap64 (t106 + 1)) then (some (0, 0, false, 3)) else (if 0 ≤ (wrap64 (t106 + 1)) then (if 0 ≤ (wrap64 (a1 + 1)) then (if (wrap64 (a1 + 1)) ≤ (wrap64 (a1 + (wrap64 (t106 + 1)))) then (if (wrap64 (a1 + (wrap64 (t106 + 1)))) ≤ (l0.length : Int) then ((some ((l0.take ((wrap64 (a1 + (wrap64 (t106 + 1)))) : Int).toNat).drop ((wrap64 (a1 + 1)) : Int).toNat : List Int)).bind fun y108 => (bits_Vint.l0 k (Go.bits .and .i64 (wrap64 (rd l0 a1)) (shr .i64 255 (wrap64 (t106 + 1)))) (wrap64 (t106 + 1)) y108 (y108.length : Int) 0)) else (none)) else (none)) else (none)) else (none))) = some (r1, r2, r3, r4) := H
            have A8 := Aside0.mk A80
            clear A80
            by_cases c9 : (wrap64 ((l0.length : Int) - a1)) < (wrap64 (t106 + 1))
            · rw [if_pos c9] at H
              have c9b0 : decide ((wrap64 ((l0.length : Int) - a1)) < (wrap64 (t106 + 1))) = true := decide_eq_true c9
              clear c9
              simp only [Option.some.injEq, Prod.mk.injEq] at H
              obtain ⟨rfl, rfl, rfl, rfl⟩ := H
              have p104 : 0 ≤ (a1 : Int) := of_decide_eq_true (by first | (with_reducible assumption) | assumption)
              have q104 : a1 < (l0.length : Int) := of_decide_eq_true (by first | (with_reducible assumption) | assumption)
              obtain ⟨ad104, e104, hx104_0⟩ := Kd.at_int HR0.out a1 p104 q104
              cases e104
              replace p104 := eq_true p104
              replace q104 := eq_true q104
              have p105 : 0 ≤ (a1 : Int) := of_decide_eq_true (by first | (with_reducible assumption) | assumption)
              have q105 : a1 < (l0.length : Int) := of_decide_eq_true (by first | (with_reducible assumption) | assumption)
              obtain ⟨ad105, e105, hx105_0⟩ := Kd.at_int HR0.out a1 p105 q105
              obtain rfl : ad104 = ad105 := (by injection e105)
              replace p105 := eq_true p105
              replace q105 := eq_true q105
              go_enter Try.func27, Try.ntmps27
              go_wp2_with (first | (go_at_call 64; (with_reducible refine (bits_LeadingZeros8.calls (rd l0 a1) t106 _ A8.out).mono ?_); rintro e w' ⟨rfl, ⟨nd, rfl⟩⟩; (try first | exact ⟨rfl, _, World.drewN_drewN _ _ _⟩ | exact ⟨rfl, _, Eq.trans (World.drewN_drewN _ _ _) (congrArg (World.drewN _) (Nat.add_assoc _ _ _))⟩)))
              repeat (go_quiet (first | (go_at_call 64; (with_reducible refine (bits_LeadingZeros8.calls (rd l0 a1) t106 _ A8.out).mono ?_); rintro e w' ⟨rfl, ⟨nd, rfl⟩⟩; (try first | exact ⟨rfl, _, World.drewN_drewN _ _ _⟩ | exact ⟨rfl, _, Eq.trans (World.drewN_drewN _ _ _) (congrArg (World.drewN _) (Nat.add_assoc _ _ _))⟩))); try go_wp2_with (first | (go_at_call 64; (with_reducible refine (bits_LeadingZeros8.calls (rd l0 a1) t106 _ A8.out).mono ?_); rintro e w' ⟨rfl, ⟨nd, rfl⟩⟩; (try first | exact ⟨rfl, _, World.drewN_drewN _ _ _⟩ | exact ⟨rfl, _, Eq.trans (World.drewN_drewN _ _ _) (congrArg (World.drewN _) (Nat.add_assoc _ _ _))⟩))))
              refine bodyPost_ret (results_list (rs := [.tmp 4, .tmp 5, .tmp 6, .tmp 7]) rfl (by simp) (.tmp (.tmp (.tmp (.tmp .nil))))) rfl ?_
              exact ⟨by first | rfl | (simp; done) | (simp [*]; done), by repeat (first | exact Drawn0.refl _ | apply Drawn0.step)⟩
            · rw [if_neg c9] at H
              have c9b0 : decide ((wrap64 ((l0.length : Int) - a1)) < (wrap64 (t106 + 1))) = false := decide_eq_false c9
              clear c9
              obtain ⟨ji10, hji10⟩ : ∃ j_ : Int, (wrap64 (t106 + 1)) = j_ := ⟨_, rfl⟩
              replace H : (if 0 ≤ (ji10) then (if 0 ≤ (wrap64 (a1 + 1)) then (if (wrap64 (a1 + 1)) ≤ (wrap64 (a1 + (ji10))) then (if (wrap64 (a1 + (ji10))) ≤ (l0.length : Int) then ((some ((l0.take ((wrap64 (a1 + (ji10))) : Int).toNat).drop ((wrap64 (a1 + 1)) : Int).toNat : List Int)).bind fun y108 => (bits_Vint.l0 k (Go.bits .and .i64 (wrap64 (rd l0 a1)) (shr .i64 255 (ji10))) ji10 y108 (y108.length : Int) 0)) else (none)) else (none)) else (none)) else (none)) = some (r1, r2, r3, r4) := by first | (rw [hji10] at H; exact H) | (simp only [hji10] at H ⊢; exact H)
              (try rw [hji10] at c9b0)
              (try rw [hji10] at A8)
              have hji10w : (IntKind.i64.wrap (t106 + 1)) = ji10 := (i64_w _).trans hji10
              by_cases c11 : 0 ≤ (ji10)
              · rw [if_pos c11] at H
                have c11b0 := eq_true c11
                have c11b1 : decide (0 ≤ (ji10)) = true := decide_eq_true c11
                clear c11
                obtain ⟨ji12, hji12⟩ : ∃ j_ : Int, (shr .i64 255 (ji10)) = j_ := ⟨_, rfl⟩
                replace H : (if 0 ≤ (wrap64 (a1 + 1)) then (if (wrap64 (a1 + 1)) ≤ (wrap64 (a1 + (ji10))) then (if (wrap64 (a1 + (ji10))) ≤ (l0.length : Int) then ((some ((l0.take ((wrap64 (a1 + (ji10))) : Int).toNat).drop ((wrap64 (a1 + 1)) : Int).toNat : List Int)).bind fun y108 => (bits_Vint.l0 k (Go.bits .and .i64 (wrap64 (rd l0 a1)) (ji12)) ji10 y108 (y108.length : Int) 0)) else (none)) else (none)) else (none)) = some (r1, r2, r3, r4) := by first | (rw [hji12] at H; exact H) | (simp only [hji12] at H ⊢; exact H)
                (try rw [hji12] at A8)
                have hji12_ : (255 / 2 ^ min (ji10).toNat 64) = ji12 := hji12
                have hji12z : (ji10) ≤ 64 → (255 / 2 ^ (ji10).toNat) = ji12 := shr_small hji12
                obtain ⟨ji13, hji13⟩ : ∃ j_ : Int, (wrap64 (a1 + 1)) = j_ := ⟨_, rfl⟩
                replace H : (if 0 ≤ (ji13) then (if (ji13) ≤ (wrap64 (a1 + (ji10))) then (if (wrap64 (a1 + (ji10))) ≤ (l0.length : Int) then ((some ((l0.take ((wrap64 (a1 + (ji10))) : Int).toNat).drop ((ji13) : Int).toNat : List Int)).bind fun y108 => (bits_Vint.l0 k (Go.bits .and .i64 (wrap64 (rd l0 a1)) (ji12)) ji10 y108 (y108.length : Int) 0)) else (none)) else (none)) else (none)) = some (r1, r2, r3, r4) := by first | (rw [hji13] at H; exact H) | (simp only [hji13] at H ⊢; exact H)
                (try rw [hji13] at A8)
                have hji13w : (IntKind.i64.wrap (a1 + 1)) = ji13 := (i64_w _).trans hji13
                by_cases c14 : 0 ≤ (ji13)
                · rw [if_pos c14] at H
                  have c14b0 := eq_true c14
                  have c14b1 : decide (0 ≤ (ji13)) = true := decide_eq_true c14
                  clear c14
                  by_cases c15 : (ji13) ≤ (wrap64 (a1 + (ji10)))
                  · rw [if_pos c15] at H
                    have c15b0 := eq_true c15
                    have c15b1 : decide ((ji13) ≤ (wrap64 (a1 + (ji10)))) = true := decide_eq_true c15
                    by_cases c16 : (wrap64 (a1 + (ji10))) ≤ (l0.length : Int)
                    · rw [if_pos c16] at H
                      have c16b0 := eq_true c16
                      have c16b1 : decide ((wrap64 (a1 + (ji10))) ≤ (l0.length : Int)) = true := decide_eq_true c16
                      obtain ⟨y108, hy108⟩ : ∃ y_ : List Int, y_ = ((l0.take ((wrap64 (a1 + (ji10))) : Int).toNat).drop ((ji13) : Int).toNat) := ⟨_, rfl⟩
                      replace H : (bits_Vint.l0 k (Go.bits .and .i64 (wrap64 (rd l0 a1)) (ji12)) ji10 y108 (y108.length : Int) 0) = some (r1, r2, r3, r4) := by first | (rw [hy108]; with_reducible exact H) | (have H2_ := (Option.bind_some _ _).symm.trans H; rw [hy108]; with_reducible exact H2_) | (have H2_ := (Option.bind_some _ _).symm.trans H; with_reducible exact H2_) | with_reducible exact H | (rw [hy108]; exact H) | exact H
                      have Ny108 := Aside0.mk hy108
                      clear hy108
                      have H' := Aside0.mk H
                      clear H
                      have p104 : 0 ≤ (a1 : Int) := of_decide_eq_true (by first | (with_reducible assumption) | assumption)
                      have q104 : a1 < (l0.length : Int) := of_decide_eq_true (by first | (with_reducible assumption) | assumption)
                      obtain ⟨ad104, e104, hx104_0⟩ := Kd.at_int HR0.out a1 p104 q104
                      cases e104
                      replace p104 := eq_true p104
                      replace q104 := eq_true q104
                      have p105 : 0 ≤ (a1 : Int) := of_decide_eq_true (by first | (with_reducible assumption) | assumption)
                      have q105 : a1 < (l0.length : Int) := of_decide_eq_true (by first | (with_reducible assumption) | assumption)
                      obtain ⟨ad105, e105, hx105_0⟩ := Kd.at_int HR0.out a1 p105 q105
                      obtain rfl : ad104 = ad105 := (by injection e105)
                      replace p105 := eq_true p105
                      replace q105 := eq_true q105
                      go_enter Try.func27, Try.ntmps27
                      go_wp2_with (first | (go_at_call 64; (with_reducible refine (bits_LeadingZeros8.calls (rd l0 a1) t106 _ A8.out).mono ?_); rintro e w' ⟨rfl, ⟨nd, rfl⟩⟩; (try first | exact ⟨rfl, _, World.drewN_drewN _ _ _⟩ | exact ⟨rfl, _, Eq.trans (World.drewN_drewN _ _ _) (congrArg (World.drewN _) (Nat.add_assoc _ _ _))⟩); have p107 : 0 ≤ (a1 : Int) := of_decide_eq_true (by first | (with_reducible assumption) | assumption); have q107 : a1 < (l0.length : Int) := of_decide_eq_true (by first | (with_reducible assumption) | assumption); obtain ⟨ad107, e107, hx107_0⟩ := Kd.at_int HR0.out a1 p107 q107; obtain rfl : ad104 = ad107 := (by injection e107); replace p107 := eq_true p107; replace q107 := eq_true q107; have q17 : ((wrap64 (a1 + (ji10))) : Int) ≤ ((l0.length : Int) : Int) := of_decide_eq_true (by first | (with_reducible assumption) | assumption); obtain ⟨i017, hi017, _, hsz17, _⟩ := info_parts info5; have hroom17 : l0.length ≤ c0 := HC0.out; have hC17 : Kd.C (Kd.int .u8) _ (some ad104) l0.length l0 := HR0.out; have ql17 : ((ji13) : Int) ≤ ((wrap64 (a1 + (ji10))) : Int) := of_decide_eq_true (by first | (with_reducible assumption) | assumption); have q017 : (0 : Int) ≤ ((ji13) : Int) := of_decide_eq_true (by first | (with_reducible assumption) | assumption); have hcut17 := cut_mid (P := Try.prog) 22 5 .i64 .i64 Try.underlying22 hi017 1 hsz17 (some ad104) l0.length c0 (ji13) (wrap64 (a1 + (ji10))) q017 ql17 q17 hroom17; have hr17 := Kd.C_mid (lo := ((ji13) : Int).toNat) (hi := ((wrap64 (a1 + (ji10))) : Int).toNat) (c := c0) hC17 (by omega) (by omega) hroom17; obtain ⟨A17, hA17⟩ : ∃ A1, A1 = (if c0 = ((ji13) : Int).toNat then (some ad104) else ((some ad104) : Option Addr).map (·.add (((ji13) : Int).toNat * 1))) := ⟨_, rfl⟩; obtain ⟨c17, hc17⟩ : ∃ c1, c1 = c0 - ((ji13) : Int).toNat := ⟨_, rfl⟩; have hy17 : y108.length = ((wrap64 (a1 + (ji10))) : Int).toNat - ((ji13) : Int).toNat := (by rw [Ny108.out, List.length_drop, List.length_take] <;> omega); rw [show ((l0).take ((wrap64 (a1 + (ji10))) : Int).toNat).drop ((ji13) : Int).toNat = y108 from Ny108.out.symm] at hr17; replace hr17 : Kd.C (Kd.int .u8) _ A17 y108.length y108 := (by rw [hA17]; exact hr17); rw [← hy17, ← hA17, ← hc17] at hcut17; have HR111 := Aside0.mk hr17; have HC111 := Aside0.mk (show y108.length ≤ c17 from by rw [hy17, hc17]; exact Nat.sub_le_sub_right (Nat.le_trans (by omega) hroom17) _); clear hr17 hC17 hroom17 hi017 hsz17 hc17; have KY17 := Aside0.mk hy17; have KA17 := Aside0.mk hA17; clear hy17 hA17; replace q17 := eq_true q17))
                      repeat (go_quiet (first | (go_at_call 64; (with_reducible refine (bits_LeadingZeros8.calls (rd l0 a1) t106 _ A8.out).mono ?_); rintro e w' ⟨rfl, ⟨nd, rfl⟩⟩; (try first | exact ⟨rfl, _, World.drewN_drewN _ _ _⟩ | exact ⟨rfl, _, Eq.trans (World.drewN_drewN _ _ _) (congrArg (World.drewN _) (Nat.add_assoc _ _ _))⟩); have p107 : 0 ≤ (a1 : Int) := of_decide_eq_true (by first | (with_reducible assumption) | assumption); have q107 : a1 < (l0.length : Int) := of_decide_eq_true (by first | (with_reducible assumption) | assumption); obtain ⟨ad107, e107, hx107_0⟩ := Kd.at_int HR0.out a1 p107 q107; obtain rfl : ad104 = ad107 := (by injection e107); replace p107 := eq_true p107; replace q107 := eq_true q107; have q17 : ((wrap64 (a1 + (ji10))) : Int) ≤ ((l0.length : Int) : Int) := of_decide_eq_true (by first | (with_reducible assumption) | assumption); obtain ⟨i017, hi017, _, hsz17, _⟩ := info_parts info5; have hroom17 : l0.length ≤ c0 := HC0.out; have hC17 : Kd.C (Kd.int .u8) _ (some ad104) l0.length l0 := HR0.out; have ql17 : ((ji13) : Int) ≤ ((wrap64 (a1 + (ji10))) : Int) := of_decide_eq_true (by first | (with_reducible assumption) | assumption); have q017 : (0 : Int) ≤ ((ji13) : Int) := of_decide_eq_true (by first | (with_reducible assumption) | assumption); have hcut17 := cut_mid (P := Try.prog) 22 5 .i64 .i64 Try.underlying22 hi017 1 hsz17 (some ad104) l0.length c0 (ji13) (wrap64 (a1 + (ji10))) q017 ql17 q17 hroom17; have hr17 := Kd.C_mid (lo := ((ji13) : Int).toNat) (hi := ((wrap64 (a1 + (ji10))) : Int).toNat) (c := c0) hC17 (by omega) (by omega) hroom17; obtain ⟨A17, hA17⟩ : ∃ A1, A1 = (if c0 = ((ji13) : Int).toNat then (some ad104) else ((some ad104) : Option Addr).map (·.add (((ji13) : Int).toNat * 1))) := ⟨_, rfl⟩; obtain ⟨c17, hc17⟩ : ∃ c1, c1 = c0 - ((ji13) : Int).toNat := ⟨_, rfl⟩; have hy17 : y108.length = ((wrap64 (a1 + (ji10))) : Int).toNat - ((ji13) : Int).toNat := (by rw [Ny108.out, List.length_drop, List.length_take] <;> omega); rw [show ((l0).take ((wrap64 (a1 + (ji10))) : Int).toNat).drop ((ji13) : Int).toNat = y108 from Ny108.out.symm] at hr17; replace hr17 : Kd.C (Kd.int .u8) _ A17 y108.length y108 := (by rw [hA17]; exact hr17); rw [← hy17, ← hA17, ← hc17] at hcut17; have HR111 := Aside0.mk hr17; have HC111 := Aside0.mk (show y108.length ≤ c17 from by rw [hy17, hc17]; exact Nat.sub_le_sub_right (Nat.le_trans (by omega) hroom17) _); clear hr17 hC17 hroom17 hi017 hsz17 hc17; have KY17 := Aside0.mk hy17; have KA17 := Aside0.mk hA17; clear hy17 hA17; replace q17 := eq_true q17)); try go_wp2_with (first | (go_at_call 64; (with_reducible refine (bits_LeadingZeros8.calls (rd l0 a1) t106 _ A8.out).mono ?_); rintro e w' ⟨rfl, ⟨nd, rfl⟩⟩; (try first | exact ⟨rfl, _, World.drewN_drewN _ _ _⟩ | exact ⟨rfl, _, Eq.trans (World.drewN_drewN _ _ _) (congrArg (World.drewN _) (Nat.add_assoc _ _ _))⟩); have p107 : 0 ≤ (a1 : Int) := of_decide_eq_true (by first | (with_reducible assumption) | assumption); have q107 : a1 < (l0.length : Int) := of_decide_eq_true (by first | (with_reducible assumption) | assumption); obtain ⟨ad107, e107, hx107_0⟩ := Kd.at_int HR0.out a1 p107 q107; obtain rfl : ad104 = ad107 := (by injection e107); replace p107 := eq_true p107; replace q107 := eq_true q107; have q17 : ((wrap64 (a1 + (ji10))) : Int) ≤ ((l0.length : Int) : Int) := of_decide_eq_true (by first | (with_reducible assumption) | assumption); obtain ⟨i017, hi017, _, hsz17, _⟩ := info_parts info5; have hroom17 : l0.length ≤ c0 := HC0.out; have hC17 : Kd.C (Kd.int .u8) _ (some ad104) l0.length l0 := HR0.out; have ql17 : ((ji13) : Int) ≤ ((wrap64 (a1 + (ji10))) : Int) := of_decide_eq_true (by first | (with_reducible assumption) | assumption); have q017 : (0 : Int) ≤ ((ji13) : Int) := of_decide_eq_true (by first | (with_reducible assumption) | assumption); have hcut17 := cut_mid (P := Try.prog) 22 5 .i64 .i64 Try.underlying22 hi017 1 hsz17 (some ad104) l0.length c0 (ji13) (wrap64 (a1 + (ji10))) q017 ql17 q17 hroom17; have hr17 := Kd.C_mid (lo := ((ji13) : Int).toNat) (hi := ((wrap64 (a1 + (ji10))) : Int).toNat) (c := c0) hC17 (by omega) (by omega) hroom17; obtain ⟨A17, hA17⟩ : ∃ A1, A1 = (if c0 = ((ji13) : Int).toNat then (some ad104) else ((some ad104) : Option Addr).map (·.add (((ji13) : Int).toNat * 1))) := ⟨_, rfl⟩; obtain ⟨c17, hc17⟩ : ∃ c1, c1 = c0 - ((ji13) : Int).toNat := ⟨_, rfl⟩; have hy17 : y108.length = ((wrap64 (a1 + (ji10))) : Int).toNat - ((ji13) : Int).toNat := (by rw [Ny108.out, List.length_drop, List.length_take] <;> omega); rw [show ((l0).take ((wrap64 (a1 + (ji10))) : Int).toNat).drop ((ji13) : Int).toNat = y108 from Ny108.out.symm] at hr17; replace hr17 : Kd.C (Kd.int .u8) _ A17 y108.length y108 := (by rw [hA17]; exact hr17); rw [← hy17, ← hA17, ← hc17] at hcut17; have HR111 := Aside0.mk hr17; have HC111 := Aside0.mk (show y108.length ≤ c17 from by rw [hy17, hc17]; exact Nat.sub_le_sub_right (Nat.le_trans (by omega) hroom17) _); clear hr17 hC17 hroom17 hi017 hsz17 hc17; have KY17 := Aside0.mk hy17; have KA17 := Aside0.mk hA17; clear hy17 hA17; replace q17 := eq_true q17)))
                      go_loopg [4, 49] k (fun kq v4 v49 w' => ∃ (x4_1 : Int) (x49_1 : Int), v4 = .int .i64 x4_1 ∧ v49 = .int .i64 x49_1 ∧ Aside0 (bits_Vint.l0 kq x4_1 ji10 y108 (y108.length : Int) x49_1 = some (r1, r2, r3, r4)) ∧ Aside0 (kq ≤ k) ∧ Drawn0 w w')
                      case atStart => exact ⟨(Go.bits .and .i64 (wrap64 (rd l0 a1)) (ji12)), (0), (by first | rfl | (simp; done) | (simp only [← hji12] <;> (first | rfl | simp)) | (simp [*]; done)), (by first | rfl | (simp; done) | (simp [*]; done)), H', ⟨Nat.le_refl _⟩, by repeat (first | exact Drawn0.refl _ | apply Drawn0.step)⟩
                      case round =>
                        clear H'
                        try clear c1
                        try clear p1
                        try clear q1
                        try clear hx1
                        try clear c2
                        try clear p2
                        try clear c3
                        try clear c3b0
                        try clear c4
                        try clear c4b0
                        try clear c5
                        try clear c5b0
                        try clear c6
                        try clear c6b0
                        try clear p6
                        try clear c7
                        try clear c7b0
                        try clear c7b1
                        try clear c9
                        try clear c9b0
                        try clear p10
                        try clear q10
                        try clear hx10
                        try clear c11
                        try clear c11b0
                        try clear c11b1
                        try clear c14
                        try clear c14b0
                        try clear c14b1
                        try clear c15
                        try clear c15b0
                        try clear c15b1
                        try clear c16
                        try clear c16b0
                        try clear c16b1
                        try clear c17
                        try clear q17
                        try clear hx104_0
                        try clear hx105_0
                        try clear hx107_0
                        try clear p104
                        try clear p105
                        try clear p107
                        try clear q017
                        try clear q104
                        try clear q105
                        try clear q107
                        try clear q17
                        obtain ⟨x4_1, x49_1, rfl, rfl, HA, HK1, ⟨m1, rfl⟩⟩ := hrel
                        cases gk with
                        | zero => exact absurd HA.out (by simp [bits_Vint.l0])
                        | succ k1 =>
                          have H := HA.out
                          clear HA
                          simp only [bits_Vint.l0] at H
                          by_cases c18 : x49_1 < (y108.length : Int)
                          · rw [if_pos c18] at H
                            have c18b0 : decide (x49_1 < (y108.length : Int)) = true := decide_eq_true c18
                            clear c18
                            by_cases c19 : 0 ≤ x49_1
                            · rw [if_pos c19] at H
                              have c19b0 : decide (0 ≤ x49_1) = true := decide_eq_true c19
                              clear c19
                              by_cases c20 : x49_1 < (y108.length : Int)
                              · rw [if_pos c20] at H
                                have c20b0 : decide (x49_1 < (y108.length : Int)) = true := decide_eq_true c20
                                clear c20
                                have H' := Aside0.mk H
                                clear H
                                have p112 : 0 ≤ (x49_1 : Int) := of_decide_eq_true (by first | (with_reducible assumption) | assumption)
                                have q112 : x49_1 < (y108.length : Int) := of_decide_eq_true (by first | (with_reducible assumption) | assumption)
                                obtain ⟨ad112, e112, hx112_0⟩ := Kd.at_int HR111.out x49_1 p112 q112
                                cases e112
                                replace p112 := eq_true p112
                                replace q112 := eq_true q112
                                go_wp2
                                repeat (go_quiet (fail); try go_wp2)
                                go_roundg k1
                                case measure => have := HK1.out; omega
                                case rel => exact ⟨(Go.bits .or .i64 (wrap64 (x4_1 * 256)) (wrap64 (rd y108 x49_1))), (wrap64 (x49_1 + 1)), (by first | rfl | (simp; done) | (simp [*]; done)), (by first | rfl | (simp; done) | (simp [*]; done)), H', ⟨by have := HK1.out; omega⟩, by repeat (first | exact Drawn0.refl _ | apply Drawn0.step)⟩
                              · rw [if_neg c20] at H
                                exact absurd H (by simp)
                            · rw [if_neg c19] at H
                              exact absurd H (by simp)
                          · rw [if_neg c18] at H
                            have c18b0 : decide (x49_1 < (y108.length : Int)) = false := decide_eq_false c18
                            clear c18
                            replace H := Option.bind_eq_some_iff.mp H
                            obtain ⟨t113, A210, H⟩ := H
                            replace H : (if x4_1 = t113 then (some (0, ji10, true, 0)) else (some (x4_1, ji10, false, 0))) = some (r1, r2, r3, r4) := H
                            have A21 := Aside0.mk A210
                            clear A210
                            by_cases c22 : x4_1 = t113
                            · rw [if_pos c22] at H
                              have c22b0 : (x4_1 == t113) = true := beq_iff_eq.mpr c22
                              have c22b1 : (x4_1 != t113) = false := bne_eq_false_iff_eq.mpr c22
                              clear c22
                              simp only [Option.some.injEq, Prod.mk.injEq] at H
                              obtain ⟨rfl, rfl, rfl, rfl⟩ := H
                              go_wp2_with (first | (go_at_call 65; (with_reducible refine (bits_all.calls ji10 t113 _ A21.out).mono ?_); rintro e w' ⟨rfl, ⟨nd, rfl⟩⟩; (try first | exact ⟨rfl, _, World.drewN_drewN _ _ _⟩ | exact ⟨rfl, _, Eq.trans (World.drewN_drewN _ _ _) (congrArg (World.drewN _) (Nat.add_assoc _ _ _))⟩)))
                              repeat (go_quiet (first | (go_at_call 65; (with_reducible refine (bits_all.calls ji10 t113 _ A21.out).mono ?_); rintro e w' ⟨rfl, ⟨nd, rfl⟩⟩; (try first | exact ⟨rfl, _, World.drewN_drewN _ _ _⟩ | exact ⟨rfl, _, Eq.trans (World.drewN_drewN _ _ _) (congrArg (World.drewN _) (Nat.add_assoc _ _ _))⟩))); try go_wp2_with (first | (go_at_call 65; (with_reducible refine (bits_all.calls ji10 t113 _ A21.out).mono ?_); rintro e w' ⟨rfl, ⟨nd, rfl⟩⟩; (try first | exact ⟨rfl, _, World.drewN_drewN _ _ _⟩ | exact ⟨rfl, _, Eq.trans (World.drewN_drewN _ _ _) (congrArg (World.drewN _) (Nat.add_assoc _ _ _))⟩))))
                              refine bodyPost_ret (results_list (rs := [.tmp 4, .tmp 5, .tmp 6, .tmp 7]) rfl (by simp) (.tmp (.tmp (.tmp (.tmp .nil))))) rfl ?_
                              exact ⟨by first | rfl | (simp; done) | (simp only [← hji10, ← hji12, ← hji13] <;> (first | rfl | simp)) | (simp [*]; done), by repeat (first | exact Drawn0.refl _ | apply Drawn0.step)⟩
                            · rw [if_neg c22] at H
                              have c22b0 : (x4_1 == t113) = false := beq_eq_false_iff_ne.mpr c22
                              have c22b1 : (x4_1 != t113) = true := bne_iff_ne.mpr c22
                              simp only [Option.some.injEq, Prod.mk.injEq] at H
                              obtain ⟨rfl, rfl, rfl, rfl⟩ := H
                              go_wp2_with (first | (go_at_call 65; (with_reducible refine (bits_all.calls ji10 t113 _ A21.out).mono ?_); rintro e w' ⟨rfl, ⟨nd, rfl⟩⟩; (try first | exact ⟨rfl, _, World.drewN_drewN _ _ _⟩ | exact ⟨rfl, _, Eq.trans (World.drewN_drewN _ _ _) (congrArg (World.drewN _) (Nat.add_assoc _ _ _))⟩)))
                              repeat (go_quiet (first | (go_at_call 65; (with_reducible refine (bits_all.calls ji10 t113 _ A21.out).mono ?_); rintro e w' ⟨rfl, ⟨nd, rfl⟩⟩; (try first | exact ⟨rfl, _, World.drewN_drewN _ _ _⟩ | exact ⟨rfl, _, Eq.trans (World.drewN_drewN _ _ _) (congrArg (World.drewN _) (Nat.add_assoc _ _ _))⟩))); try go_wp2_with (first | (go_at_call 65; (with_reducible refine (bits_all.calls ji10 t113 _ A21.out).mono ?_); rintro e w' ⟨rfl, ⟨nd, rfl⟩⟩; (try first | exact ⟨rfl, _, World.drewN_drewN _ _ _⟩ | exact ⟨rfl, _, Eq.trans (World.drewN_drewN _ _ _) (congrArg (World.drewN _) (Nat.add_assoc _ _ _))⟩))))
                              refine bodyPost_ret (results_list (rs := [.tmp 4, .tmp 5, .tmp 6, .tmp 7]) rfl (by simp) (.tmp (.tmp (.tmp (.tmp .nil))))) rfl ?_
                              exact ⟨by first | rfl | (simp; done) | (simp only [← hji10, ← hji12, ← hji13] <;> (first | rfl | simp)) | (simp [*]; done), by repeat (first | exact Drawn0.refl _ | apply Drawn0.step)⟩
                    · rw [if_neg c16] at H
                      exact absurd H (by simp)
                  · rw [if_neg c15] at H
                    exact absurd H (by simp)
                · rw [if_neg c14] at H
                  exact absurd H (by simp)
              · rw [if_neg c11] at H
                exact absurd H (by simp)
        · rw [if_neg c6] at H
          exact absurd H (by simp)
      · rw [if_neg c5] at H
        exact absurd H (by simp)

end Go.Proofs.Ytlhdfdedhdcmiaa.QBits
