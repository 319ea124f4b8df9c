/- A lemma file: the methods of a writer of bits, as functions of lists of bits: the rest. No condition. -/
import Derived.Test.YtlhdfdedhdcmiaaPM
namespace Go.Proofs.Ytlhdfdedhdcmiaa.QBits
open Go.RowKit Go.Proofs.YtlhdfdedhdcmiaaW.PrintWords Go.Proofs.YtlhdfdedhdcmiaaW.PrintLast Go.Proofs.YtlhdfdedhdcmiaaW.PrintMore Go.Proofs.YtlhdfdedhdcmiaaV
set_option linter.unusedVariables false
set_option linter.unusedSimpArgs false
theorem zeros_calls {w : World} {base g : Nat} {F : Nat → Prop} {B : List Bool} (h : IsW w base F g B) (hb : base ≤ w.heap.size) (n : Nat) (hm : n ≤ 9223372036854775807) (hn : B.length + n + 1 < 67108864) :
    Calls Try.prog 83 #[.pointer (some ⟨g, 0, none⟩), .int .i64 (n : Int)] w fun e w' => e = .returned (.tuple #[]) ∧ ∃ F', IsW w' base F' g (B ++ (List.replicate n false ++ [true])) ∧ Moved w w' F F' := by
  have H := Aside0.mk h
  have HB := Aside0.mk hb
  have HM := Aside0.mk hm
  have HN := Aside0.mk hn
  clear h hb hm hn
  go_enter Try.func83, Try.ntmps83
  go_wp2_with fail
  go_loopg [5] (n + 1) (fun kq v5 w' => ∃ (m : Nat) (Fm : Nat → Prop), v5 = .int .i64 (m : Int) ∧ Aside0 (kq = n - m + 1) ∧ Aside0 (m ≤ n) ∧ Aside0 (IsW w' base Fm g (B ++ List.replicate m false)) ∧ Aside0 (Moved w w' F Fm))
  case atStart =>
    exact ⟨0, F, rfl, ⟨rfl⟩, ⟨Nat.zero_le _⟩, ⟨by simpa using H.out⟩, ⟨Moved.refl _ _⟩⟩
  case round =>
    obtain ⟨m, Fm, rfl, HQ, HE, HI, HMv⟩ := hrel
    by_cases hlt : m < n
    · have e1 : decide ((m : Int) < (n : Int)) = true := decide_eq_true (by omega)
      have e2 : decide (m < n) = true := decide_eq_true hlt
      have e3 : wrap64 ((m : Int) + 1) = ((m + 1 : Nat) : Int) := by have := HM.out; unfold wrap64; omega
      have HLT := Aside0.mk hlt
      clear hlt
      go_wp2_with fail
      refine (bit_calls HI.out (Nat.le_trans HB.out HMv.out.size) (by have := HN.out; have := HLT.out; simp; omega) false _ rfl).mono ?_
      rintro e w2 ⟨rfl, F2, I2, M2⟩
      have HI2 := Aside0.mk I2
      have HM2 := Aside0.mk (HMv.out.trans M2)
      clear I2 M2 HI HMv
      go_wp2_with fail
      go_roundg (n - (m + 1) + 1)
      case measure => have := HQ.out; have := HLT.out; omega
      case rel =>
        refine ⟨m + 1, F2, by rw [e3], ⟨rfl⟩, ⟨HLT.out⟩, ⟨?_⟩, HM2⟩
        have h9 := HI2.out
        rw [List.append_assoc] at h9
        rw [List.replicate_succ']
        exact h9
    · have hz : m = n := by have := HE.out; omega
      subst hz
      have e1 : decide ((m : Int) < (m : Int)) = false := by simp
      have e2 : decide (m < m) = false := by simp
      clear hlt
      go_wp2_with fail
      refine (bit_calls HI.out (Nat.le_trans HB.out HMv.out.size) (by have := HN.out; simp; omega) true _ rfl).mono ?_
      rintro e w2 ⟨rfl, F2, I2, M2⟩
      have HI2 := Aside0.mk I2
      have HM2 := Aside0.mk (HMv.out.trans M2)
      clear I2 M2 HI HMv
      go_wp2_with fail
      go_end0
      exact ⟨rfl, F2, by rw [← List.append_assoc]; exact HI2.out, HM2.out⟩
theorem dead_calls {w : World} {base g : Nat} {F : Nat → Prop} {B : List Bool} (h : IsW w base F g B) :
    Calls Try.prog 80 #[.pointer (some ⟨g, 0, none⟩)] w fun e w' => e = .returned (.bool false) ∧ ∃ m, w' = w.drewN m := by
  obtain ⟨gc, v, h, rfl⟩ := h
  have cg0 : w.cell? ⟨g, 0, none⟩ = some (.pointer (some ⟨gc, 0, none⟩)) := (blk_cell h.hg 0).trans rfl
  clear h
  go_enter Try.func80, Try.ntmps80
  go_wp2
  go_ret
  exact ⟨rfl, 0, rfl⟩
theorem room_calls {w : World} {base g : Nat} {F : Nat → Prop} {B : List Bool} (h : IsW w base F g B) (hl : B.length ≤ 67108864) (n : Int) (h0 : -4611686018427387904 ≤ n) (h1 : n ≤ 4611686018427387904) :
    Calls Try.prog 81 #[.pointer (some ⟨g, 0, none⟩), .int .i64 n] w fun e w' => e = .returned (.bool (decide ((B.length : Int) + n ≤ 8388608))) ∧ ∃ m, w' = w.drewN m := by
  obtain ⟨gc, v, h, rfl⟩ := h
  have cg0 : w.cell? ⟨g, 0, none⟩ = some (.pointer (some ⟨gc, 0, none⟩)) := (blk_cell h.hg 0).trans rfl
  have cc0 : w.cell? ⟨gc, 0, none⟩ = some (.int .i64 (B.length : Int)) := (blk_cell h.hc 0).trans rfl
  have e1 : IntKind.i64.wrap ((B.length : Int) + n) = (B.length : Int) + n := by rw [IntKind.wrap_i64]; omega
  have e2 : wrap64 ((B.length : Int) + n) = (B.length : Int) + n := by unfold wrap64; omega
  clear h hl h0 h1
  go_enter Try.func81, Try.ntmps81
  go_wp2
  go_ret
  exact ⟨by simp [e1, e2], 0, rfl⟩
theorem cLen_calls {w : World} {gc : Nat} {n : Int} (h : w.heap[gc]? = some (.cells #[.int .i64 n] 85 (0, 0))) :
    Calls Try.prog 79 #[.pointer (some ⟨gc, 0, none⟩)] w fun e w' => e = .returned (.int .i64 n) ∧ w' = w := by
  have cc0 : w.cell? ⟨gc, 0, none⟩ = some (.int .i64 n) := (blk_cell h 0).trans rfl
  clear h
  go_enter Try.func79, Try.ntmps79
  go_wp2
  go_ret
  exact ⟨rfl, rfl⟩
theorem wLen_calls {w : World} {base g : Nat} {F : Nat → Prop} {B : List Bool} (h : IsW w base F g B) :
    Calls Try.prog 54 #[.pointer (some ⟨g, 0, none⟩)] w fun e w' => e = .returned (.int .i64 (B.length : Int)) ∧ ∃ m, w' = w.drewN m := by
  obtain ⟨gc, v, h, rfl⟩ := h
  have cg0 : w.cell? ⟨g, 0, none⟩ = some (.pointer (some ⟨gc, 0, none⟩)) := (blk_cell h.hg 0).trans rfl
  have HC := Aside0.mk h.hc
  clear h
  go_enter Try.func54, Try.ntmps54
  go_wp2_with fail
  refine (cLen_calls HC.out).mono ?_
  rintro e w2 ⟨rfl, rfl⟩
  go_wp2
  go_ret
  exact ⟨rfl, 0, rfl⟩
end Go.Proofs.Ytlhdfdedhdcmiaa.QBits
