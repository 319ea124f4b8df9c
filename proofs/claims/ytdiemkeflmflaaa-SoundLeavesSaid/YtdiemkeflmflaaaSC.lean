/- A lemma file: before and sign of both sides draw nothing; the predictors' learn. No condition. -/
import Derived.Test.YtdiemkeflmflaaaSB
import Derived.Test.YtdiemkeflmflaaaVMoved
import Derived.Test.YtdiemkeflmflaaaQSoundx4
import Derived.Test.YtdiemkeflmflaaaQSoundx5
namespace Go.Proofs.Ytdiemkeflmflaaa.QSound
open Go.RowKit Go.Proofs.YtdiemkeflmflaaaW.PrintWords Go.Proofs.YtdiemkeflmflaaaW.PrintLast Go.Proofs.YtdiemkeflmflaaaW.PrintMore Go.Proofs.YtdiemkeflmflaaaV
set_option linter.unusedVariables false
set_option linter.unusedSimpArgs false
section
attribute [local go_sem] max2_int min2_int max_two min_two max_three min_three max_four min_four
set_option maxHeartbeats 8000000 in
set_option maxRecDepth 100000 in
theorem sound_before.still (A0 : Option Addr) (c0 : Nat) (l0 : List Int) (a1 : Int) (r : Int) (w : World) (hr0 : Kd.C (Kd.int .i64) w A0 l0.length l0) (hc0 : l0.length ≤ c0) (h : sound_before.f l0 a1 = some r) :
    Calls Try.prog 119 #[.slice A0 l0.length c0, .int .i64 a1] w fun e w' => e = .returned (.int .i64 r) ∧ w' = w := by
  have HR0 := Aside0.mk hr0
  have HC0 := Aside0.mk hc0
  clear hr0 hc0
  have H : (if a1 ≥ (l0.length : Int) then (some 0) else (if 0 ≤ (wrap64 ((wrap64 ((l0.length : Int) - 1)) - a1)) then (if (wrap64 ((wrap64 ((l0.length : Int) - 1)) - a1)) < (l0.length : Int) then (some (rd l0 (wrap64 ((wrap64 ((l0.length : Int) - 1)) - a1)))) else (none)) else (none))) = some r := h
  clear h
  by_cases c3 : a1 ≥ (l0.length : Int)
  · rw [if_pos c3] at H
    have c3b0 : decide ((l0.length : Int) ≤ a1) = true := decide_eq_true c3
    clear c3
    obtain rfl := Option.some.inj H
    go_enter Try.func119, Try.ntmps119
    go_wp2
    go_ret
    exact ⟨by first | rfl | (simp; done) | (simp [*]; done), rfl⟩
  · rw [if_neg c3] at H
    have c3b0 : decide ((l0.length : Int) ≤ a1) = false := decide_eq_false c3
    clear c3
    obtain ⟨ji4, hji4⟩ : ∃ j_ : Int, (wrap64 ((wrap64 ((l0.length : Int) - 1)) - a1)) = j_ := ⟨_, rfl⟩
    replace H : (if 0 ≤ (ji4) then (if (ji4) < (l0.length : Int) then (some (rd l0 (ji4))) else (none)) else (none)) = some r := by first | (rw [hji4] at H; exact H) | (simp only [hji4] at H ⊢; exact H)
    have hji4w : (IntKind.i64.wrap ((wrap64 ((l0.length : Int) - 1)) - a1)) = ji4 := (i64_w _).trans hji4
    by_cases c5 : 0 ≤ (ji4)
    · rw [if_pos c5] at H
      have c5b0 : decide (0 ≤ (ji4)) = true := decide_eq_true c5
      clear c5
      by_cases c6 : (ji4) < (l0.length : Int)
      · rw [if_pos c6] at H
        have c6b0 : decide ((ji4) < (l0.length : Int)) = true := decide_eq_true c6
        clear c6
        obtain rfl := Option.some.inj H
        have p102 : 0 ≤ ((ji4) : Int) := of_decide_eq_true (by first | (with_reducible assumption) | assumption)
        have q102 : (ji4) < (l0.length : Int) := of_decide_eq_true (by first | (with_reducible assumption) | assumption)
        obtain ⟨ad102, e102, hx102_0⟩ := Kd.at_int HR0.out (ji4) p102 q102
        cases e102
        replace p102 := eq_true p102
        replace q102 := eq_true q102
        go_enter Try.func119, Try.ntmps119
        go_wp2
        go_ret
        exact ⟨by first | rfl | (simp; done) | (simp only [← hji4] <;> (first | rfl | simp)) | (simp [*]; done), rfl⟩
      · rw [if_neg c6] at H
        exact absurd H (by simp)
    · rw [if_neg c5] at H
      exact absurd H (by simp)
set_option maxHeartbeats 8000000 in
set_option maxRecDepth 100000 in
theorem sound_sign.still (a0 : Int) (r : Int) (w : World) (h : sound_sign.f a0 = some r) :
    Calls Try.prog 120 #[.int .i64 a0] w fun e w' => e = .returned (.int .i64 r) ∧ w' = w := by
  have H : (if a0 < 0 then (some (-1)) else (if a0 > 0 then (some 1) else (some 0))) = some r := h
  clear h
  by_cases c2 : a0 < 0
  · rw [if_pos c2] at H
    have c2b0 : decide (a0 < 0) = true := decide_eq_true c2
    clear c2
    obtain rfl := Option.some.inj H
    go_enter Try.func120, Try.ntmps120
    go_wp2
    go_ret
    exact ⟨by first | rfl | (simp; done) | (simp [*]; done), rfl⟩
  · rw [if_neg c2] at H
    have c2b0 : decide (a0 < 0) = false := decide_eq_false c2
    clear c2
    by_cases c3 : a0 > 0
    · rw [if_pos c3] at H
      have c3b0 : decide (0 < a0) = true := decide_eq_true c3
      clear c3
      obtain rfl := Option.some.inj H
      go_enter Try.func120, Try.ntmps120
      go_wp2
      go_ret
      exact ⟨by first | rfl | (simp; done) | (simp [*]; done), rfl⟩
    · rw [if_neg c3] at H
      have c3b0 : decide (0 < a0) = false := decide_eq_false c3
      clear c3
      obtain rfl := Option.some.inj H
      go_enter Try.func120, Try.ntmps120
      go_wp2
      go_ret
      exact ⟨by first | rfl | (simp; done) | (simp [*]; done), rfl⟩
set_option maxHeartbeats 8000000 in
set_option maxRecDepth 100000 in
theorem dioramaref16_before.still (A0 : Option Addr) (c0 : Nat) (l0 : List Int) (a1 : Int) (a2 : Int) (r : Int) (w : World) (hr0 : Kd.C (Kd.int .i64) w A0 l0.length l0) (hc0 : l0.length ≤ c0) (h : dioramaref16_before.f l0 a1 a2 = some r) :
    Calls Try.prog 121 #[.slice A0 l0.length c0, .int .i64 a1, .int .i64 a2] w fun e w' => e = .returned (.int .i64 r) ∧ w' = w := by
  have HR0 := Aside0.mk hr0
  have HC0 := Aside0.mk hc0
  clear hr0 hc0
  have H : (if (wrap64 (a1 - a2)) < 0 then (some 0) else (if 0 ≤ (wrap64 (a1 - a2)) then (if (wrap64 (a1 - a2)) < (l0.length : Int) then (some (rd l0 (wrap64 (a1 - a2)))) else (none)) else (none))) = some r := h
  clear h
  by_cases c4 : (wrap64 (a1 - a2)) < 0
  · rw [if_pos c4] at H
    have c4b0 : decide ((wrap64 (a1 - a2)) < 0) = true := decide_eq_true c4
    clear c4
    obtain rfl := Option.some.inj H
    go_enter Try.func121, Try.ntmps121
    go_wp2
    go_ret
    exact ⟨by first | rfl | (simp; done) | (simp [*]; done), rfl⟩
  · rw [if_neg c4] at H
    have c4b0 : decide ((wrap64 (a1 - a2)) < 0) = false := decide_eq_false c4
    clear c4
    obtain ⟨ji5, hji5⟩ : ∃ j_ : Int, (wrap64 (a1 - a2)) = j_ := ⟨_, rfl⟩
    replace H : (if 0 ≤ (ji5) then (if (ji5) < (l0.length : Int) then (some (rd l0 (ji5))) else (none)) else (none)) = some r := by first | (rw [hji5] at H; exact H) | (simp only [hji5] at H ⊢; exact H)
    (try rw [hji5] at c4b0)
    have hji5w : (IntKind.i64.wrap (a1 - a2)) = ji5 := (i64_w _).trans hji5
    by_cases c6 : 0 ≤ (ji5)
    · rw [if_pos c6] at H
      have c6b0 : decide (0 ≤ (ji5)) = true := decide_eq_true c6
      clear c6
      by_cases c7 : (ji5) < (l0.length : Int)
      · rw [if_pos c7] at H
        have c7b0 : decide ((ji5) < (l0.length : Int)) = true := decide_eq_true c7
        clear c7
        obtain rfl := Option.some.inj H
        have p120 : 0 ≤ ((ji5) : Int) := of_decide_eq_true (by first | (with_reducible assumption) | assumption)
        have q120 : (ji5) < (l0.length : Int) := of_decide_eq_true (by first | (with_reducible assumption) | assumption)
        obtain ⟨ad120, e120, hx120_0⟩ := Kd.at_int HR0.out (ji5) p120 q120
        cases e120
        replace p120 := eq_true p120
        replace q120 := eq_true q120
        go_enter Try.func121, Try.ntmps121
        go_wp2
        go_ret
        exact ⟨by first | rfl | (simp; done) | (simp only [← hji5] <;> (first | rfl | simp)) | (simp [*]; done), rfl⟩
      · rw [if_neg c7] at H
        exact absurd H (by simp)
    · rw [if_neg c6] at H
      exact absurd H (by simp)
set_option maxHeartbeats 8000000 in
set_option maxRecDepth 100000 in
theorem dioramaref16_sign.still (a0 : Int) (r : Int) (w : World) (h : dioramaref16_sign.f a0 = some r) :
    Calls Try.prog 123 #[.int .i64 a0] w fun e w' => e = .returned (.int .i64 r) ∧ Below w.heap.size w w' := by
  have HB := Aside0.mk (Below.refl w.heap.size w)
  have H : (if a0 < 0 then (some (-1)) else (some (mn a0 1))) = some r := h
  clear h
  by_cases c2 : a0 < 0
  · rw [if_pos c2] at H
    have c2b0 : decide (a0 < 0) = true := decide_eq_true c2
    clear c2
    obtain rfl := Option.some.inj H
    go_enter Try.func123, Try.ntmps123
    go_wp2
    go_ret
    exact ⟨by first | rfl | (simp [errW_none, errW_some] <;> rfl) | (simp [*, errW_none, errW_some] <;> rfl), by repeat (first | (with_reducible first | exact HB.out | apply below_alloc | apply pw_below_drewN | apply below_drew1) | exact HB.out)⟩
  · rw [if_neg c2] at H
    have c2b0 : decide (a0 < 0) = false := decide_eq_false c2
    clear c2
    obtain ⟨ji3, hji3⟩ : ∃ j_ : Int, (mn a0 1) = j_ := ⟨_, rfl⟩
    replace H : (some ji3) = some r := by first | (rw [hji3] at H; exact H) | (simp only [hji3] at H ⊢; exact H)
    (try (have hji3h : ji3 ≤ 1 := by (rw [← hji3]; unfold mn; (repeat' split) <;> omega)))
    (try (have hji3g : ji3 ≤ 64 := by omega))
    have hji3_ : (if 1 < a0 then 1 else a0) = ji3 := hji3
    obtain rfl := Option.some.inj H
    go_enter Try.func123, Try.ntmps123
    go_wp2
    go_ret
    exact ⟨by first | rfl | (simp [errW_none, errW_some] <;> rfl) | (simp only [← hji3]; first | rfl | (simp [errW_none, errW_some] <;> rfl)) | (simp [*, errW_none, errW_some] <;> rfl), by repeat (first | (with_reducible first | exact HB.out | apply below_alloc | apply pw_below_drewN | apply below_drew1) | exact HB.out)⟩
end

def sgn (a : Int) : Int := if a < 0 then -1 else if a > 0 then 1 else 0
theorem sign_f (a : Int) : sound_sign.f a = some (sgn a) := by
  unfold sound_sign.f sgn
  split
  · rfl
  · split <;> rfl
theorem sgn_le (a : Int) : sgn a = -1 ∨ sgn a = 0 ∨ sgn a = 1 := by
  unfold sgn
  split
  · exact .inl rfl
  · split
    · exact .inr (.inr rfl)
    · exact .inr (.inl rfl)
theorem sgn_mul (a b : Int) : -1 ≤ sgn a * sgn b ∧ sgn a * sgn b ≤ 1 := by
  rcases sgn_le a with h | h | h <;> rcases sgn_le b with k | k | k <;> rw [h, k] <;> decide
def learnF (s : Int) (b f : Nat → Int) (i : Nat) : Nat → Int := fun j => if j < i then wrap64 (f j + sgn s * sgn (b j) * 4) else f j
theorem learnF_succ (s : Int) (b f : Nat → Int) (i j : Nat) : learnF s b f (i + 1) j = if j = i then wrap64 (f i + sgn s * sgn (b i) * 4) else learnF s b f i j := by
  unfold learnF
  by_cases h : j = i
  · subst h; simp
  · rw [if_neg h]
    by_cases k : j < i
    · rw [if_pos (by omega), if_pos k]
    · rw [if_neg (by omega), if_neg k]
theorem indexAt_w (g i : Nat) (h : i < 4) (w : World) : (Instr.indexAt 140 (.pointer (some ⟨g, 1, none⟩)) (.int .i64 (i : Int))).run Try.prog w = .ok (.pointer (some ⟨g, 1 + i, none⟩)) w := by
  have x0 : (Instr.indexAt 140 (.pointer (some ⟨g, 1, none⟩)) (.int .i64 ((0 : Nat) : Int))).run Try.prog w = .ok (.pointer (some ⟨g, 1 + 0, none⟩)) w := by kernel_rfl
  have x1 : (Instr.indexAt 140 (.pointer (some ⟨g, 1, none⟩)) (.int .i64 ((1 : Nat) : Int))).run Try.prog w = .ok (.pointer (some ⟨g, 1 + 1, none⟩)) w := by kernel_rfl
  have x2 : (Instr.indexAt 140 (.pointer (some ⟨g, 1, none⟩)) (.int .i64 ((2 : Nat) : Int))).run Try.prog w = .ok (.pointer (some ⟨g, 1 + 2, none⟩)) w := by kernel_rfl
  have x3 : (Instr.indexAt 140 (.pointer (some ⟨g, 1, none⟩)) (.int .i64 ((3 : Nat) : Int))).run Try.prog w = .ok (.pointer (some ⟨g, 1 + 3, none⟩)) w := by kernel_rfl
  have c : i = 0 ∨ i = 1 ∨ i = 2 ∨ i = 3 := by omega
  rcases c with rfl | rfl | rfl | rfl
  · exact x0
  · exact x1
  · exact x2
  · exact x3
theorem IsP.cell {W : World} {g : Nat} {o : Int} {f : Nat → Int} (h : IsP W g o f) (i : Nat) (hi : i < 4) : W.cell? ⟨g, 1 + i, none⟩ = some (.int .i64 (f i)) := by
  have c : i = 0 ∨ i = 1 ∨ i = 2 ∨ i = 3 := by omega
  rcases c with rfl | rfl | rfl | rfl
  · exact (blk_cell h.hg 1).trans rfl
  · exact (blk_cell h.hg 2).trans rfl
  · exact (blk_cell h.hg 3).trans rfl
  · exact (blk_cell h.hg 4).trans rfl
theorem IsP.set {W : World} {g : Nat} {o : Int} {f f' : Nat → Int} (h : IsP W g o f) (i : Nat) (hi : i < 4) (v : Int) (hf : ∀ j, f' j = if j = i then v else f j) : IsP (W.setCell ⟨g, 1 + i, none⟩ (.int .i64 v)) g o f' := by
  have k := blk_set h.hg (1 + i) (.int .i64 v)
  have c : i = 0 ∨ i = 1 ∨ i = 2 ∨ i = 3 := by omega
  constructor
  rcases c with rfl | rfl | rfl | rfl <;> simpa [hf] using k
theorem Moved_set {W : World} (g i : Nat) (v : Value) : Moved W (W.setCell ⟨g, i, none⟩ v) (fun k => k = g) (fun k => k = g) :=
  ⟨rfl, rfl, rfl, by simp [World.setCell], fun k _ hn => Below.heap_setCell _ ⟨g, i, none⟩ _ k hn, fun k hk => .inl hk⟩
set_option maxRecDepth 100000 in
set_option maxHeartbeats 1000000 in
theorem learn_calls {w : World} {g : Nat} {o : Int} {f : Nat → Int} (h : IsP w g o f) (A0 : Option Addr) (c0 : Nat) (l0 : List Int) (hr0 : ∀ w', Moved w w' (fun k => k = g) (fun k => k = g) → Kd.C (Kd.int .i64) w' A0 l0.length l0) (hc0 : l0.length ≤ c0) (hl : l0.length ≤ 4611686018427387904) (s : Int) :
    Calls Try.prog 66 #[.pointer (some ⟨g, 0, none⟩), .slice A0 l0.length c0, .int .i64 s] w fun e w' => e = .returned (.tuple #[]) ∧ IsP w' g o (learnF s (bef l0 l0.length) f 4) ∧ Moved w w' (fun k => k = g) (fun k => k = g) := by
  have H := Aside0.mk h
  have HR := Aside0.mk hr0
  have HC := Aside0.mk hc0
  have HL := Aside0.mk hl
  clear h hr0 hc0 hl
  go_enter Try.func66, Try.ntmps66
  go_wp2_with fail
  go_loopg [7] 5 (fun kq v7 w' => ∃ (i : Nat), v7 = .int .i64 (i : Int) ∧ Aside0 (kq = 4 - i + 1) ∧ Aside0 (i ≤ 4) ∧ Aside0 (IsP w' g o (learnF s (bef l0 l0.length) f i)) ∧ Aside0 (Moved w w' (fun k => k = g) (fun k => k = g)))
  case atStart => exact ⟨0, rfl, ⟨rfl⟩, ⟨by omega⟩, ⟨⟨H.out.hg⟩⟩, ⟨Moved.refl _ _⟩⟩
  case round =>
    obtain ⟨i, rfl, HQ, HI, HP, HM⟩ := hrel
    have hi := HI.out
    by_cases h4 : i = 4
    · subst h4
      clear hi HI
      go_wp2_with fail
      go_end0
      exact ⟨rfl, HP.out, HM.out⟩
    · have hlt : i < 4 := by omega
      have HLT := Aside0.mk hlt
      have xi := indexAt_w g i hlt
      have ci := HP.out.cell i hlt
      have fi := blk_frozen HP.out.hg (1 + i)
      have hi1 : decide ((i : Int) < 4) = true := decide_eq_true (by omega)
      have hi2 : decide (i < 4) = true := decide_eq_true hlt
      have e8 : wrap64 ((i : Int) + 1) = ((i + 1 : Nat) : Int) := by unfold wrap64; omega
      have m1 : wrap64 (sgn s * sgn (bef l0 l0.length i)) = sgn s * sgn (bef l0 l0.length i) := by have := sgn_mul s (bef l0 l0.length i); unfold wrap64; omega
      have m2 : wrap64 (sgn s * sgn (bef l0 l0.length i) * 4) = sgn s * sgn (bef l0 l0.length i) * 4 := by have := sgn_mul s (bef l0 l0.length i); unfold wrap64; omega
      clear hi h4 hlt
      go_wp2_with fail
      go_still_tail 18, (by kernel_rfl)
      still_call (sound_sign.still s (sgn s) _ (sign_f s))
      repeat still_step
      still_call (sound_before.still A0 c0 l0 (i : Int) (bef l0 l0.length i) _ (HR.out _ (HM.out.drewN 1)) HC.out (before_f l0 i HL.out))
      still_call (sound_sign.still (bef l0 l0.length i) (sgn (bef l0 l0.length i)) _ (sign_f _))
      repeat still_step
      refine wpStill_nil ?_
      change wpList _ _ _ _ _ wr.drew
      go_wp2_with fail
      go_roundg (4 - i)
      case measure => have := HQ.out; have := HLT.out; omega
      case rel =>
        refine ⟨i + 1, by rw [e8], ⟨by have := HLT.out; omega⟩, ⟨by have := HLT.out; omega⟩, ⟨?_⟩, ⟨?_⟩⟩
        · refine ⟨(HP.out.set i HLT.out _ (fun j => ?_)).hg⟩
          rw [learnF_succ]
          have e : learnF s (bef l0 l0.length) f i i = f i := by unfold learnF; rw [if_neg (by omega)]
          rw [e]
        · exact HM.out.trans ((Moved_set g (1 + i) _).drewN 1)
end Go.Proofs.Ytdiemkeflmflaaa.QSound
