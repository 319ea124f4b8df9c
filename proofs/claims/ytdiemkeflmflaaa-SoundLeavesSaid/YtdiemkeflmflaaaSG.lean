/- A lemma file: the reference's learn. No condition. -/
import Derived.Test.YtdiemkeflmflaaaSF
namespace Go.Proofs.Ytdiemkeflmflaaa.QSound
open Go.RowKit Go.Proofs.YtdiemkeflmflaaaW.PrintWords Go.Proofs.YtdiemkeflmflaaaW.PrintLast Go.Proofs.YtdiemkeflmflaaaW.PrintMore Go.Proofs.YtdiemkeflmflaaaV
set_option linter.unusedVariables false
set_option linter.unusedSimpArgs false
theorem rsign_f (a : Int) : dioramaref16_sign.f a = some (sgn a) := by
  unfold dioramaref16_sign.f sgn
  by_cases h : a < 0
  · rw [if_pos h, if_pos h]
  · rw [if_neg h, if_neg h]
    unfold mn
    split <;> split <;> first | rfl | (congr 1; omega) | (exfalso; omega)
section
attribute [local go_sem] max2_int min2_int max_two min_two
theorem rsign_still (a : Int) (w : World) : Calls Try.prog 123 #[.int .i64 a] w fun e w' => e = .returned (.int .i64 (sgn a)) ∧ w' = w := by
  unfold sgn
  by_cases h : a < 0
  · rw [if_pos h]
    have h1 : decide (a < 0) = true := decide_eq_true h
    clear h
    go_enter Try.func123, Try.ntmps123
    go_wp2
    go_ret
    exact ⟨rfl, rfl⟩
  · rw [if_neg h]
    have h1 : decide (a < 0) = false := decide_eq_false h
    have e : (if a > 0 then (1 : Int) else 0) = (if 1 < a then 1 else a) := by
      by_cases h2 : a > 0
      · rw [if_pos h2]
        by_cases h3 : 1 < a
        · rw [if_pos h3]
        · rw [if_neg h3]; omega
      · rw [if_neg h2, if_neg (by omega)]; omega
    rw [e]
    obtain ⟨sv, hsv⟩ : ∃ sv, (if 1 < a then 1 else a) = sv := ⟨_, rfl⟩
    rw [hsv]
    clear h e
    go_enter Try.func123, Try.ntmps123
    go_wp2
    go_ret
    exact ⟨rfl, rfl⟩
end
theorem IsX.cell {W : World} {g : Nat} {o : Int} {f : Nat → Int} (h : IsX W g o f) (i : Nat) (hi : i < 4) : W.cell? ⟨g, 1 + i, none⟩ = some (.int .i64 (f i)) := by
  have c : i = 0 ∨ i = 1 ∨ i = 2 ∨ i = 3 := by omega
  rcases c with rfl | rfl | rfl | rfl
  · exact (blk_cell h.hg 1).trans rfl
  · exact (blk_cell h.hg 2).trans rfl
  · exact (blk_cell h.hg 3).trans rfl
  · exact (blk_cell h.hg 4).trans rfl
theorem IsX.set {W : World} {g : Nat} {o : Int} {f f' : Nat → Int} (h : IsX W g o f) (i : Nat) (hi : i < 4) (v : Int) (hf : ∀ j, f' j = if j = i then v else f j) : IsX (W.setCell ⟨g, 1 + i, none⟩ (.int .i64 v)) g o f' := by
  have k := blk_set h.hg (1 + i) (.int .i64 v)
  have c : i = 0 ∨ i = 1 ∨ i = 2 ∨ i = 3 := by omega
  constructor
  rcases c with rfl | rfl | rfl | rfl <;> simpa [hf] using k
set_option maxRecDepth 100000 in
set_option maxHeartbeats 1000000 in
theorem rlearn5_calls {w : World} {g : Nat} {f : Nat → Int} (h : IsX w g 5 f) (A0 : Option Addr) (c0 : Nat) (l0 : List Int) (hr0 : ∀ w', Moved w w' (fun k => k = g) (fun k => k = g) → Kd.C (Kd.int .i64) w' A0 l0.length l0) (hc0 : l0.length ≤ c0) (hl : l0.length ≤ 4611686018427387904) (t : Nat) (ht : t ≤ l0.length) (s : Int) :
    Calls Try.prog 73 #[.pointer (some ⟨g, 0, none⟩), .slice A0 l0.length c0, .int .i64 (t : Int), .int .i64 s] w fun e w' => e = .returned (.tuple #[]) ∧ IsX w' g 5 (learnF s (bef l0 t) f 4) ∧ Moved w w' (fun k => k = g) (fun k => k = g) := by
  have H := Aside0.mk h
  have HR := Aside0.mk hr0
  have HC := Aside0.mk hc0
  have HL := Aside0.mk hl
  have HTT := Aside0.mk ht
  clear h hr0 hc0 hl ht
  go_enter Try.func73, Try.ntmps73
  go_wp2_with fail
  go_loopg [8] 5 (fun kq v8 w' => ∃ (i : Nat), v8 = .int .i64 (i : Int) ∧ Aside0 (kq = 4 - i + 1) ∧ Aside0 (i ≤ 4) ∧ Aside0 (IsX w' g 5 (learnF s (bef l0 t) f i)) ∧ Aside0 (Moved w w' (fun k => k = g) (fun k => k = g)))
  case atStart => exact ⟨0, rfl, ⟨rfl⟩, ⟨by omega⟩, ⟨⟨H.out.hg⟩⟩, ⟨Moved.refl _ _⟩⟩
  case round =>
    obtain ⟨i, rfl, HQ, HI, HP, HM⟩ := hrel
    have hi := HI.out
    have o6 : wr.cell? ⟨g, 0, none⟩ = some (.int .i64 5) := (blk_cell HP.out.hg 0).trans rfl
    by_cases h4 : i = 4
    · subst h4
      clear hi HI
      go_wp2_with fail
      go_end0
      exact ⟨rfl, HP.out, HM.out⟩
    · have hlt : i < 4 := by omega
      have HLT := Aside0.mk hlt
      have xi := indexAt_w g i hlt
      have ci := HP.out.cell i hlt
      have fi := blk_frozen HP.out.hg (1 + i)
      have hi1 : decide ((i : Int) < 4) = true := decide_eq_true (by omega)
      have hi2 : decide (i < 4) = true := decide_eq_true hlt
      have e8 : wrap64 ((i : Int) + 1) = ((i + 1 : Nat) : Int) := by unfold wrap64; omega
      have m1 : wrap64 (4 * sgn s) = 4 * sgn s := by have := sgn_le s; unfold wrap64; omega
      have m0 : 4 * sgn s * sgn (bef l0 t i) = sgn s * sgn (bef l0 t i) * 4 := by rw [Int.mul_assoc, Int.mul_comm]
      have m2 : wrap64 (4 * sgn s * sgn (bef l0 t i)) = sgn s * sgn (bef l0 t i) * 4 := by rw [m0]; have := sgn_mul s (bef l0 t i); unfold wrap64; omega
      have e7 : wrap64 (1 + (i : Int)) = (i : Int) + 1 := by unfold wrap64; omega
      have m1' : IntKind.i64.wrap (4 * sgn s) = 4 * sgn s := (i64_w _).trans m1
      have e7' : IntKind.i64.wrap (1 + (i : Int)) = (i : Int) + 1 := (i64_w _).trans e7
      have m2' : IntKind.i64.wrap (4 * sgn s * sgn (bef l0 t i)) = sgn s * sgn (bef l0 t i) * 4 := (i64_w _).trans m2
      have o5 : wr.cell? ⟨g, 0, none⟩ = some (.int .i64 5) := (blk_cell HP.out.hg 0).trans rfl
      clear m0
      clear hi h4 hlt
      go_wp2_with fail
      go_still_tail 20, (by kernel_rfl)
      still_call (rsign_still s _)
      repeat still_step
      still_call (dioramaref16_before.still A0 c0 l0 (t : Int) ((i : Int) + 1) (bef l0 t i) _ (HR.out _ (HM.out.drewN 1)) HC.out (rbefore_f l0 t i HTT.out HL.out (by have := HLT.out; omega)))
      still_call (rsign_still (bef l0 t i) _)
      repeat still_step
      refine wpStill_nil ?_
      change wpList _ _ _ _ _ wr.drew
      go_wp2_with fail
      go_roundg (4 - i)
      case measure => have := HQ.out; have := HLT.out; omega
      case rel =>
        refine ⟨i + 1, by rw [e8], ⟨by have := HLT.out; omega⟩, ⟨by have := HLT.out; omega⟩, ⟨?_⟩, ⟨?_⟩⟩
        · refine ⟨(HP.out.set i HLT.out _ (fun j => ?_)).hg⟩
          rw [learnF_succ]
          have e : learnF s (bef l0 t) f i i = f i := by unfold learnF; rw [if_neg (by omega)]
          rw [e]
        · exact HM.out.trans ((Moved_set g (1 + i) _).drewN 1)
set_option maxRecDepth 100000 in
set_option maxHeartbeats 1000000 in
theorem rlearnO_calls {w : World} {g : Nat} {o : Int} {f : Nat → Int} (ho : o ≠ 5) (h : IsX w g o f) (v1 v2 v3 : Value) :
    Calls Try.prog 73 #[.pointer (some ⟨g, 0, none⟩), v1, v2, v3] w fun e w' => e = .returned (.tuple #[]) ∧ w' = w := by
  have o6 : w.cell? ⟨g, 0, none⟩ = some (.int .i64 o) := (blk_cell h.hg 0).trans rfl
  have h5 : (o == 5) = false := beq_eq_false_iff_ne.mpr ho
  clear h ho
  go_enter Try.func73, Try.ntmps73
  go_wp2_with fail
  go_loopg [8] 1 (fun kq v8 w' => v8 = .int .i64 0 ∧ Aside0 (w' = w))
  case atStart => exact ⟨rfl, ⟨rfl⟩⟩
  case round =>
    obtain ⟨rfl, HW⟩ := hrel
    have hw := HW.out
    subst hw
    clear HW
    go_wp2_with fail
    go_end0
    exact ⟨rfl, rfl⟩
theorem IsX.same {W W' : World} {g : Nat} {o : Int} {f : Nat → Int} (h : IsX W g o f) (e : W'.heap[g]? = W.heap[g]?) : IsX W' g o f := ⟨e.trans h.hg⟩
theorem rlearn_calls {w : World} {g o : Nat} {f ff : Nat → Int} (h : IsX w g (o : Int) f) (hf : o = 5 → f = ff) (A0 : Option Addr) (c0 : Nat) (l0 : List Int) (hr0 : ∀ w', Moved w w' (fun k => k = g) (fun k => k = g) → Kd.C (Kd.int .i64) w' A0 l0.length l0) (hc0 : l0.length ≤ c0) (hl : l0.length ≤ 4611686018427387904) (t : Nat) (ht : t ≤ l0.length) (s : Int) :
    Calls Try.prog 73 #[.pointer (some ⟨g, 0, none⟩), .slice A0 l0.length c0, .int .i64 (t : Int), .int .i64 s] w fun e w' => e = .returned (.tuple #[]) ∧ (∃ f', IsX w' g (o : Int) f' ∧ (o = 5 → f' = learnF s (bef l0 t) ff 4)) ∧ Moved w w' (fun k => k = g) (fun k => k = g) := by
  by_cases h5 : o = 5
  · subst h5
    refine (rlearn5_calls h A0 c0 l0 hr0 hc0 hl t ht s).mono ?_
    rintro e w2 ⟨rfl, h2, h3⟩
    exact ⟨rfl, ⟨_, h2, fun _ => by rw [hf rfl]⟩, h3⟩
  · refine (rlearnO_calls (by omega) h _ _ _).mono ?_
    rintro e w2 ⟨rfl, rfl⟩
    exact ⟨rfl, ⟨_, h, fun h9 => absurd h9 h5⟩, Moved.refl _ _⟩
theorem predF_same {o : Nat} {f ff b : Nat → Int} (h : o = 5 → f = ff) : predF o f b = predF o ff b := by
  by_cases h5 : o = 5
  · rw [h h5]
  · unfold predF; rw [if_neg h5, if_neg h5]
end Go.Proofs.Ytdiemkeflmflaaa.QSound
