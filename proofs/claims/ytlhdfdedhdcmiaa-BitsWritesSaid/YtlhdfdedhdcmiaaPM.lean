/- A lemma file: the methods of a writer of bits, as functions of lists of bits. No condition. -/
import Derived.Test.YtlhdfdedhdcmiaaPW
namespace Go.Proofs.Ytlhdfdedhdcmiaa.QBits
open Go.RowKit Go.Proofs.YtlhdfdedhdcmiaaW.PrintWords Go.Proofs.YtlhdfdedhdcmiaaW.PrintLast Go.Proofs.YtlhdfdedhdcmiaaW.PrintMore Go.Proofs.YtlhdfdedhdcmiaaV
set_option linter.unusedVariables false
set_option linter.unusedSimpArgs false
def rawB (v : Int) : Nat → List Bool
  | 0 => []
  | n + 1 => decide ((v / 2 ^ n) % 2 = 1) :: rawB v n
def bI (b : Bool) : Int := if b then 1 else 0
theorem bit_val8 (B : List Bool) (b : Bool) : Go.bits .or .u8 (rd (if B.length % 8 = 0 then packB B ++ [0] else packB B) ((B.length / 8 : Nat) : Int)) (IntKind.u8.wrap (IntKind.i64.wrap (bI b * 2 ^ min (7 - B.length % 8) 64))) = ((byteB B (B.length / 8) + bw b (2 ^ (7 - B.length % 8)) : Nat) : Int) := by
  obtain ⟨_, q, hq⟩ := last_byte B b
  have hlt : byteB B (B.length / 8) < 256 := bsum_lt _
  have hrd : rd (if B.length % 8 = 0 then packB B ++ [0] else packB B) ((B.length / 8 : Nat) : Int) = ((byteB B (B.length / 8) : Nat) : Int) := by
    by_cases hm : B.length % 8 = 0
    · rw [if_pos hm]
      have hl : (packB B).length = B.length / 8 := by rw [packB_length]; omega
      have e : byteB B (B.length / 8) = 0 := by rw [hm] at hq; omega
      rw [e]
      unfold rd
      rw [Int.toNat_natCast, List.getD_eq_getElem?_getD, List.getElem?_append_right (by omega), hl]
      simp
    · rw [if_neg hm]
      exact packB_rd (by omega)
  have hs : (7 - B.length % 8) ≤ 7 := by omega
  rw [hrd]
  generalize byteB B (B.length / 8) = z at hq hlt ⊢
  have e8 : 8 - B.length % 8 = (7 - B.length % 8) + 1 := by have := Nat.mod_lt B.length (show 0 < 8 by omega); omega
  rw [e8] at hq
  generalize 7 - B.length % 8 = s at hs hq ⊢
  rw [Nat.min_eq_left (by omega)]
  have hp : (2 : Nat) ^ s ≤ 128 := Nat.pow_le_pow_right (n := 2) (by omega) hs
  have hp0 : 0 < (2 : Nat) ^ s := Nat.two_pow_pos s
  have ex : IntKind.u8.wrap (IntKind.i64.wrap (bI b * 2 ^ s)) = ((bw b (2 ^ s) : Nat) : Int) := by
    have e : bI b * 2 ^ s = ((bw b (2 ^ s) : Nat) : Int) := by
      cases b
      · simp [bI, bw]
      · simp [bI, bw]
    have h9 : bw b (2 ^ s) ≤ 128 := Nat.le_trans (bw_le b (2 ^ s)) hp
    rw [e]
    clear hq hp hp0 hrd e
    generalize bw b (2 ^ s) = zz at h9 ⊢
    rw [IntKind.wrap_i64, IntKind.wrap_u8]
    omega
  rw [ex]
  have hw := bw_le b (2 ^ s)
  have hw8 : bw b (2 ^ s) ≤ 128 := Nat.le_trans hw hp
  have hpp : ((bw b (2 ^ s) : Nat) : Int) < 2 ^ (s + 1) := by
    have h4 : (2 : Nat) ^ (s + 1) = 2 * 2 ^ s := by rw [Nat.pow_succ, Nat.mul_comm]
    have h5 : bw b (2 ^ s) < 2 ^ (s + 1) := by rw [h4]; exact Nat.lt_of_le_of_lt hw (by generalize 2 ^ s = t at hp0 ⊢; omega)
    exact_mod_cast h5
  clear hrd hp hp0 hw ex e8
  generalize bw b (2 ^ s) = zz at hw8 hpp ⊢
  rw [bits_join .u8 8 (by decide) (fun n h0 h1 => by rw [IntKind.wrap_u8]; omega) (s + 1) (z : Int) _ (Int.natCast_nonneg _) ?_ (by clear hpp hq; omega) (Int.natCast_nonneg _) hpp (by clear hpp hq; omega)]
  · clear hpp hq; omega
  · rw [hq]
    have h2 : (((q * 2 ^ (s + 1) : Nat)) : Int) % 2 ^ (s + 1) = 0 := by
      have h3 : (q * 2 ^ (s + 1)) % 2 ^ (s + 1) = 0 := Nat.mul_mod_left _ _
      exact_mod_cast h3
    exact h2
theorem bit_calls {w : World} {base g : Nat} {F : Nat → Prop} {B : List Bool} (h : IsW w base F g B) (hb : base ≤ w.heap.size) (hn : B.length < 67108864) (b : Bool) (x : Int) (hx : x = bI b) :
    Calls Try.prog 92 #[.pointer (some ⟨g, 0, none⟩), .int .i64 x] w fun e w' => e = .returned (.tuple #[]) ∧ ∃ F', IsW w' base F' g (B ++ [b]) ∧ Moved w w' F F' := by
  obtain ⟨gc, v, h, rfl⟩ := h
  subst hx
  refine (bit_raw g gc v (packB B) B.length (B.length / 8) (B.length % 8) (7 - B.length % 8) (bI b) base w h hb (by omega) (by omega) hn (by rw [packB_length]; split <;> omega) _ (bit_val8 B b)).mono ?_
  rintro e w' ⟨rfl, v', h1, h2⟩
  refine ⟨rfl, _, ⟨gc, v', ?_, rfl⟩, h2⟩
  rw [packB_snoc]
  simpa using h1
theorem shr1 {v : Int} {m : Nat} (h0 : 0 ≤ v) (h1 : v ≤ 9223372036854775807) : Go.bits .and .i64 (v / 2 ^ m) 1 = bI (decide ((v / 2 ^ m) % 2 = 1)) := by
  have h2 : 0 ≤ v / 2 ^ m := Int.ediv_nonneg h0 (Int.pow_nonneg (by omega))
  have h3 : v / 2 ^ m ≤ v := Int.ediv_le_self _ h0
  rw [i64_and_one h2 (by omega)]
  unfold bI
  by_cases e : (v / 2 ^ m) % 2 = 1
  · simp [e]
  · simp only [e, decide_false, if_neg]; simp; omega
theorem rawB_length (v : Int) : ∀ n, (rawB v n).length = n
  | 0 => rfl
  | n + 1 => by simp [rawB, rawB_length v n]
set_option maxHeartbeats 1000000 in
theorem raw_calls {w : World} {base g : Nat} {F : Nat → Prop} {B : List Bool} (h : IsW w base F g B) (hb : base ≤ w.heap.size) (v : Int) (n : Nat) (hv : 0 ≤ v) (hv1 : v ≤ 9223372036854775807) (hm : n ≤ 64) (hn : B.length + n < 67108864) :
    Calls Try.prog 82 #[.pointer (some ⟨g, 0, none⟩), .int .i64 v, .int .i64 (n : Int)] w fun e w' => e = .returned (.tuple #[]) ∧ ∃ F', IsW w' base F' g (B ++ rawB v n) ∧ Moved w w' F F' := by
  have H := Aside0.mk h
  have HB := Aside0.mk hb
  have HV := Aside0.mk hv
  have HV1 := Aside0.mk hv1
  have HM := Aside0.mk hm
  have HN := Aside0.mk hn
  clear h hb hv hv1 hm hn
  go_enter Try.func82, Try.ntmps82
  go_wp2_with fail
  go_loopg [6] (n + 1) (fun kq v6 w' => ∃ (m : Nat) (Fm : Nat → Prop) (Bm : List Bool), v6 = .int .i64 (IntKind.i64.wrap ((m : Int) - 1)) ∧ Aside0 (kq = m + 1) ∧ Aside0 (m ≤ n ∧ Bm ++ rawB v m = B ++ rawB v n) ∧ Aside0 (IsW w' base Fm g Bm) ∧ Aside0 (Moved w w' F Fm))
  case atStart =>
    exact ⟨n, F, B, by rw [i64_w], ⟨rfl⟩, ⟨⟨Nat.le_refl _, rfl⟩⟩, H, ⟨Moved.refl _ _⟩⟩
  case round =>
    obtain ⟨m, Fm, Bm, rfl, HQ, HE, HI, HMv⟩ := hrel
    cases m with
    | zero =>
      have e : IntKind.i64.wrap (((0 : Nat) : Int) - 1) = -1 := by decide
      rw [e]
      go_wp2_with fail
      go_end0
      have h9 := HE.out.2
      simp only [rawB, List.append_nil] at h9
      exact ⟨rfl, Fm, by rw [← h9]; exact HI.out, HMv.out⟩
    | succ m =>
      have e : IntKind.i64.wrap (((m + 1 : Nat) : Int) - 1) = (m : Int) := by have := HE.out.1; have := HM.out; rw [IntKind.wrap_i64]; omega
      rw [e]
      have sh : v / 2 ^ min m 64 = v / 2 ^ m := by have := HE.out.1; have := HM.out; rw [Nat.min_eq_left (by omega)]
      go_wp2_with fail
      refine (bit_calls HI.out (Nat.le_trans HB.out HMv.out.size) ?hn (decide ((v / 2 ^ m) % 2 = 1)) _ (shr1 HV.out HV1.out)).mono ?_
      case hn =>
        have h1 := congrArg List.length HE.out.2
        have h2 := HE.out.1
        have h3 := HN.out
        simp only [List.length_append, rawB_length] at h1
        omega
      rintro e w2 ⟨rfl, F2, I2, M2⟩
      have HI2 := Aside0.mk I2
      have HM2 := Aside0.mk (HMv.out.trans M2)
      clear I2 M2 HI HMv
      go_wp2_with fail
      go_roundg (m + 1)
      case measure => have := HQ.out; omega
      case rel =>
        refine ⟨m, F2, _, ?_, ⟨rfl⟩, ⟨⟨?_, ?_⟩⟩, HI2, HM2⟩
        · simp only [i64_w]
        · have := HE.out.1; omega
        · rw [← HE.out.2, List.append_assoc]; rfl
end Go.Proofs.Ytlhdfdedhdcmiaa.QBits
