/- A lemma file: reading and writing whole numbers in bytes, of the program and of the reference, as functions on lists. No condition. -/
import Derived.Test.YtaebgjdaoloceaaVPlain
import Derived.Test.YtaebgjdaoloceaaQBmpPx4
namespace Go.Proofs.Ytaebgjdaoloceaa.Pure
open Go.RowKit Go.Proofs.Ytaebgjdaoloceaa.QBmpP Go.Proofs.YtaebgjdaoloceaaW.PrintWords Go.Proofs.YtaebgjdaoloceaaW.PrintMore Go.Proofs.YtaebgjdaoloceaaV
/-- The n lowest bytes of a number, the highest first. -/
def bigS : Int → Nat → List Int
  | _, 0 => []
  | v, n + 1 => bigS (v / 256) n ++ [v % 256]
theorem bigS_length : ∀ (n : Nat) (v : Int), (bigS v n).length = n
  | 0, _ => rfl
  | n + 1, v => by simp [bigS, bigS_length n]
theorem set_mid (out : List Int) (m : Nat) (h : m < out.length) (v : Int) : (out.set m v).drop m = v :: out.drop (m + 1) := by
  rw [List.drop_eq_getElem_cons (by simpa using h), List.drop_set_of_lt (by omega)]
  simp
theorem big_l0 : ∀ (m : Nat) (v : Int) (out : List Int), m ≤ out.length → out.length ≤ 281474976710656 → Ev (fun k => bits_big.l0 k v out ((m : Int) - 1)) (bigS v m ++ out.drop m)
  | 0, v, out, _, _ => Ev.step (f := fun _ => some (bigS v 0 ++ out.drop 0)) (fun k => by simp only [bits_big.l0]; rw [if_neg (by omega)]; simp [bigS]) (Ev.now _)
  | m + 1, v, out, h, hl => by
    have ih := big_l0 m (v / 256) (out.set m (v % 256)) (by simp; omega) (by simpa using hl)
    have e : bigS (v / 256) m ++ (out.set m (v % 256)).drop m = bigS v (m + 1) ++ out.drop (m + 1) := by
      rw [set_mid _ _ (by omega)]; simp [bigS]
    rw [e] at ih
    refine Ev.step (fun k => ?_) ih
    simp only [bits_big.l0]
    have e1 : ((m + 1 : Nat) : Int) - 1 = (m : Int) := by omega
    rw [e1, if_pos (by omega), if_pos (by omega), if_pos (by omega), w64 (by omega) (by omega), Int.toNat_natCast]
theorem big_ev {v n : Int} (h0 : 0 ≤ n) (h1 : n ≤ 4294967296) : Ev (fun k => bits_big.f k v n) (bigS v n.toNat) := by
  obtain ⟨m, rfl⟩ := Int.eq_ofNat_of_zero_le h0
  have h := big_l0 m v (List.replicate m 0) (by simp) (by simp; omega)
  rw [List.drop_of_length_le (by simp), List.append_nil] at h
  unfold bits_big.f
  simp only [if_pos h0, Int.toNat_natCast]
  simp only [if_pos (show m ≤ 281474976710656 by omega)]
  rw [w64 (by omega) (by omega)]
  exact h
/-- The bytes of a number, or the error. -/
def putS (v n : Int) : List Int × Int := if n < 1 ∨ n > 8 ∨ v < 0 ∨ n < 8 ∧ v ≥ 2 ^ (8 * n.toNat) then ([], 1) else (bigS v n.toNat, 0)
theorem u64p {v : Int} (h : 0 ≤ v) (h' : v ≤ 18446744073709551615) : IntKind.u64.wrap v = v := by rw [IntKind.wrap_u64]; omega
theorem put_ev {v n : Int} (hv : v ≤ 9223372036854775807) : Ev (fun k => bits_PutInt.f k v n) (putS v n) := by
  unfold bits_PutInt.f putS
  by_cases h1 : n < 1
  · simp only [if_pos h1, if_pos (show n < 1 ∨ n > 8 ∨ v < 0 ∨ n < 8 ∧ v ≥ 2 ^ (8 * n.toNat) by omega)]; exact Ev.now _
  · by_cases h2 : n > 8
    · simp only [if_neg h1, if_pos h2, if_pos (show n < 1 ∨ n > 8 ∨ v < 0 ∨ n < 8 ∧ v ≥ 2 ^ (8 * n.toNat) by omega)]; exact Ev.now _
    · by_cases h3 : v < 0
      · simp only [if_neg h1, if_neg h2, if_pos h3, if_pos (show n < 1 ∨ n > 8 ∨ v < 0 ∨ n < 8 ∧ v ≥ 2 ^ (8 * n.toNat) by omega)]; exact Ev.now _
      · have hb := big_ev (v := v) (n := n) (by omega) (by omega)
        by_cases h4 : n < 8
        · simp only [if_neg h1, if_neg h2, if_neg h3, if_pos h4]
          rw [w64 (by omega) (by omega), u64p (by omega) (by omega)]
          simp only [if_pos (show 0 ≤ 8 * n by omega)]
          have es : shr .i64 v (8 * n) = v / 2 ^ (8 * n.toNat) := by
            unfold shr
            have : min (8 * n).toNat IntKind.i64.bits = 8 * n.toNat := by simp only [IntKind.bits]; omega
            rw [this]
          rw [es]
          have hp : (0 : Int) < 2 ^ (8 * n.toNat) := Int.pow_pos (by decide)
          by_cases h5 : v ≥ 2 ^ (8 * n.toNat)
          · have : v / 2 ^ (8 * n.toNat) > 0 := by
              have := Int.le_ediv_of_mul_le (a := 1) hp (by simpa using h5)
              omega
            simp only [if_pos this, if_pos (show n < 1 ∨ n > 8 ∨ v < 0 ∨ n < 8 ∧ v ≥ 2 ^ (8 * n.toNat) from .inr (.inr (.inr ⟨h4, h5⟩)))]
            exact Ev.now _
          · have : v / 2 ^ (8 * n.toNat) = 0 := Int.ediv_eq_zero_of_lt (by omega) (by omega)
            rw [this]
            simp only [if_neg (show ¬ (0 : Int) > 0 by decide), if_neg (show ¬ (n < 1 ∨ n > 8 ∨ v < 0 ∨ n < 8 ∧ v ≥ 2 ^ (8 * n.toNat)) from fun h => h.elim h1 (fun h => h.elim h2 (fun h => h.elim h3 (fun h => h5 h.2))))]
            exact Ev.bind hb (Ev.now _)
        · simp only [if_neg h1, if_neg h2, if_neg h3, if_neg h4]
          rw [u64p (by omega) (by omega), if_neg (show ¬ (n < 1 ∨ n > 8 ∨ v < 0 ∨ n < 8 ∧ v ≥ 2 ^ (8 * n.toNat)) from fun h => h.elim h1 (fun h => h.elim h2 (fun h => h.elim h3 (fun h => h4 h.1))))]
          exact Ev.bind hb (Ev.now _)
theorem putS_length {v n : Int} : (putS v n).1.length ≤ 8 := by
  unfold putS
  split
  · simp
  · simp only [bigS_length]; omega
/-! The number of bytes. -/
end Go.Proofs.Ytaebgjdaoloceaa.Pure
