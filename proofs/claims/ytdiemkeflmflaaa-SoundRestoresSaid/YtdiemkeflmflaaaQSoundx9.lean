/- Part of a proof: functions of the program as Lean functions, and that the machine's calls come to them. Made by a program of this session (wip/mp). -/
import Derived.Test.YtdiemkeflmflaaaQSoundx0
import Derived.Test.YtdiemkeflmflaaaQSoundx2
import Derived.Test.YtdiemkeflmflaaaQSoundx5
import Derived.Test.YtdiemkeflmflaaaQSoundx6
import Derived.Test.YtdiemkeflmflaaaQSoundx8
namespace Go.Proofs.Ytdiemkeflmflaaa.QSound
open Go.RowKit Go.Proofs.YtdiemkeflmflaaaV Go.Proofs.YtdiemkeflmflaaaW.PrintWords Go.Proofs.YtdiemkeflmflaaaW.PrintLast Go.Proofs.YtdiemkeflmflaaaW.PrintMore
attribute [local go_sem] max2_int min2_int max_two min_two max_three min_three max_four min_four   -- for this text's walks alone
set_option linter.unusedVariables false
set_option linter.unusedSimpArgs false

/-! ### dioramaref16_Left: function 21 -/
theorem rin_f (v a b : Int) : dioramaref16_in.f v a b = some (decide (a ≤ v) && decide (v ≤ b)) := by
  unfold dioramaref16_in.f
  by_cases h : v ≥ a
  · rw [if_pos h, decide_eq_true h]; simp
  · rw [if_neg h, decide_eq_false h]; simp
set_option maxRecDepth 100000 in
set_option maxHeartbeats 2000000 in
theorem rleft_calls {w : World} (o : Int) (A0 : Option Addr) (c0 : Nat) (l0 : List Int) (hr0 : Kd.C (Kd.int .i64) w A0 l0.length l0) (hc0 : l0.length ≤ c0) :
    Calls Try.prog 21 #[.slice A0 l0.length c0, .int .i64 o] w fun e w' => ∃ v0 v1, e = .returned (.tuple #[v0, v1, .int .i64 (leftF l0 o).2.2]) ∧ Kd.R (Kd.int .i64) 3 w' w.heap.size (fun _ => True) v0 (leftF l0 o).1 ∧ Kd.R (Kd.int .i64) 3 w' w.heap.size (fun _ => True) v1 (leftF l0 o).2.1 ∧ Below w.heap.size w w' ∧ NeRow v0 v1 := by
  obtain ⟨r0, r1, r2, hF⟩ : ∃ r0 r1 r2, leftF l0 o = (r0, r1, r2) := ⟨_, _, _, rfl⟩
  rw [hF]
  have HF := Aside0.mk hF
  clear hF
  have HR := Aside0.mk hr0
  have HC := Aside0.mk hc0
  have HLL := Aside0.mk (show l0.length ≤ 9223372036854775807 from hr0.2.1)
  clear hr0 hc0
  by_cases ho : 0 ≤ o ∧ o ≤ 5
  · have HO := Aside0.mk ho
    have HI0 : Aside0 ((decide ((0 : Int) ≤ o) && decide (o ≤ 5)) = true) := ⟨by simp; omega⟩
    clear ho
    go_enter Try.func21, Try.ntmps21
    go_wp2_with fail
    refine (dioramaref16_in.calls o 0 5 true _ (by rw [rin_f, HI0.out])).mono ?_
    rintro e w1 ⟨rfl, ⟨n1, rfl⟩⟩
    go_wp2_with fail
    go_loopg [7] (l0.length + 1) (fun kq v7 w' => ∃ (i n : Nat), v7 = .int .i64 (i : Int) ∧ Aside0 (kq = l0.length - i + 1) ∧ Aside0 (i ≤ l0.length ∧ (l0.take i).any (out 67108864) = false) ∧ Aside0 (w' = w.drewN n))
    case atStart => exact ⟨0, n1, rfl, ⟨rfl⟩, ⟨⟨Nat.zero_le _, rfl⟩⟩, ⟨rfl⟩⟩
    case round =>
      obtain ⟨i, n, rfl, HQ, HI, HW⟩ := hrel
      have hw := HW.out
      subst hw
      clear HW
      by_cases hi : i < l0.length
      · have e8 : wrap64 ((i : Int) + 1) = ((i + 1 : Nat) : Int) := by have := HLL.out; unfold wrap64; omega
        obtain ⟨ad, e0, x0⟩ := Kd.at_int (Kd.C_drewN HR.out n) (i : Int) (by omega) (by omega)
        cases e0
        rw [Int.toNat_natCast] at x0
        have hi1 : decide ((i : Int) < (l0.length : Int)) = true := decide_eq_true (by omega)
        have hi2 : decide (i < l0.length) = true := decide_eq_true hi
        have hx3 : ((i : Int) < (l0.length : Int)) = True := eq_true (by omega)
        have hx4 : (i < l0.length) = True := eq_true hi
        have HI1 := Aside0.mk hi
        have htk : (l0.take (i + 1)).any (out 67108864) = out 67108864 (rd l0 (i : Int)) := by
          have h1 := HI.out.2
          rw [List.take_add_one, List.any_append, h1]
          simp [rd, List.getD_eq_getElem?_getD, List.getElem?_eq_getElem hi]
        have HTK := Aside0.mk htk
        clear htk hi
        go_wp2_with fail
        refine (dioramaref16_in.calls (rd l0 (i : Int)) (-67108864) 67108864 (!out 67108864 (rd l0 (i : Int))) _ (by rw [rin_f]; simp [out])).mono ?_
        rintro e w2 ⟨rfl, ⟨n2, rfl⟩⟩
        cases hb : out 67108864 (rd l0 (i : Int)) with
        | true =>
          have HB : Aside0 (l0.any (out 67108864) = true) := ⟨List.any_eq_true.mpr ⟨rd l0 (i : Int), by have h9 := HI1.out; simp [rd, List.getD_eq_getElem?_getD, List.getElem?_eq_getElem h9], hb⟩⟩
          have hF : (([] : List Int), ([] : List Int), (1 : Int)) = (r0, r1, r2) := Eq.trans (by unfold leftF; rw [if_pos (.inr (.inr HB.out))]) HF.out
          cases hF
          go_wp2_with fail
          go_ret3
          exact ⟨_, _, rfl, Kd.R_nil _ _ _ _ _, Kd.R_nil _ _ _ _ _, pw_below_drewN (Below.refl _ _) (n + n2), ne_nil _⟩
        | false =>
          go_wp2_with fail
          go_roundg (l0.length - (i + 1) + 1)
          case measure => have := HQ.out; have := HI1.out; omega
          case rel => exact ⟨i + 1, n + n2, by rw [e8], ⟨rfl⟩, ⟨⟨HI1.out, by rw [HTK.out, hb]⟩⟩, ⟨rfl⟩⟩
      · have hi1 : decide ((i : Int) < (l0.length : Int)) = false := decide_eq_false (by omega)
        have hi2 : decide (i < l0.length) = false := decide_eq_false hi
        have hz : l0.any (out 67108864) = false := by have h9 := HI.out.2; rwa [List.take_of_length_le (by omega)] at h9
        have HZ := Aside0.mk hz
        have hno : ¬ (o < 0 ∨ 5 < o ∨ l0.any (out 67108864) = true) := by
          have := HO.out
          rw [hz]
          rintro (h | h | h)
          · omega
          · omega
          · cases h
        have HNO := Aside0.mk hno
        clear hi hz hno
        by_cases hl : 16384 < l0.length
        · have hF : (([] : List Int), ([] : List Int), (2 : Int)) = (r0, r1, r2) := Eq.trans (by unfold leftF; rw [if_neg HNO.out, if_pos hl]) HF.out
          cases hF
          have hlb : decide (16384 < (l0.length : Int)) = true := decide_eq_true (by omega)
          have hlb' : decide (16384 < l0.length) = true := decide_eq_true (by omega)
          clear hl
          go_wp2_with fail
          go_ret3
          exact ⟨_, _, rfl, Kd.R_nil _ _ _ _ _, Kd.R_nil _ _ _ _ _, pw_below_drewN (Below.refl _ _) n, ne_nil _⟩
        · have hF : (l0.take (warmN o.toNat l0.length), (leftS l0 o.toNat (warmN o.toNat l0.length) (l0.length - warmN o.toNat l0.length)).2, (0 : Int)) = (r0, r1, r2) := Eq.trans (by unfold leftF; rw [if_neg HNO.out, if_neg hl]) HF.out
          cases hF
          have hlb : decide (16384 < (l0.length : Int)) = false := decide_eq_false (by omega)
          have hlb' : decide (16384 < l0.length) = false := decide_eq_false (by omega)
          have HL : Aside0 (l0.length ≤ 16384) := ⟨by omega⟩
          have HLC := Aside0.mk (rleft_ok (w := w.drewN n) o.toNat (by have := HO.out; omega) A0 c0 l0 (Kd.C_drewN HR.out n) HC.out HZ.out HL.out)
          have e9 : ((o.toNat : Nat) : Int) = o := Int.toNat_of_nonneg HO.out.1
          rw [e9] at HLC
          clear hl e9
          go_wp2_with fail
          refine HLC.out.mono ?_
          rintro e w2 ⟨v0, v1, rfl, h0, h1, hb, hne⟩
          have HNE := Aside0.mk hne
          have H0 := Aside0.mk h0
          have H1 := Aside0.mk h1
          have H2 := Aside0.mk hb
          clear h0 h1 hb hne
          go_wp2_with fail
          go_ret3
          exact ⟨_, _, rfl, H0.out, H1.out, below_step (pw_below_drewN (Below.refl _ _) n) H2.out, HNE.out⟩
  · have hF : (([] : List Int), ([] : List Int), (1 : Int)) = (r0, r1, r2) := Eq.trans (by unfold leftF; rw [if_pos (by omega)]) HF.out
    cases hF
    have HI0 : Aside0 ((decide ((0 : Int) ≤ o) && decide (o ≤ 5)) = false) := ⟨by simp; omega⟩
    clear ho
    go_enter Try.func21, Try.ntmps21
    go_wp2_with fail
    refine (dioramaref16_in.calls o 0 5 false _ (by rw [rin_f, HI0.out])).mono ?_
    rintro e w1 ⟨rfl, ⟨n1, rfl⟩⟩
    go_wp2_with fail
    go_ret3
    exact ⟨_, _, rfl, Kd.R_nil _ _ _ _ _, Kd.R_nil _ _ _ _ _, pw_below_drewN (Below.refl _ _) n1, ne_nil _⟩
def dioramaref16_Left.f (l0 : List Int) (a1 : Int) : Option (List Int × List Int × Int) := some (leftF l0 a1)
theorem dioramaref16_Left.calls (A0 : Option Addr) (c0 : Nat) (l0 : List Int) (a1 : Int) (r1 : List Int) (r2 : List Int) (r3 : Int) (w : World) (hr0 : Kd.C (Kd.int .i64) w A0 l0.length l0) (hc0 : l0.length ≤ c0) (h : dioramaref16_Left.f l0 a1 = some (r1, r2, r3)) :
    Calls Try.prog 21 #[.slice A0 l0.length c0, .int .i64 a1] w fun e w' => ∃ v0_ v1_ : Value, e = .returned (.tuple #[v0_, v1_, .int .i64 r3]) ∧ Kd.R (Kd.int .i64) 3 w' w.heap.size (fun k_ => some k_ ≠ (v1_ : Value).ownBlock) v0_ r1 ∧ Kd.R (Kd.int .i64) 3 w' w.heap.size (fun k_ => some k_ ≠ (v0_ : Value).ownBlock) v1_ r2 ∧ Below w.heap.size w w' := by
  have e := Option.some.inj h
  refine (rleft_calls (w := w) a1 A0 c0 l0 hr0 hc0).mono ?_
  rw [e]
  rintro e w' ⟨v0, v1, rfl, h0, h1, hb, hn⟩
  exact ⟨v0, v1, rfl, R_apart h0 hn, R_apart h1 (ne_symm hn), hb⟩

end Go.Proofs.Ytdiemkeflmflaaa.QSound
