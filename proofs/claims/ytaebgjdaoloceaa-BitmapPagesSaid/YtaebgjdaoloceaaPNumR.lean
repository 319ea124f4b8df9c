/- A lemma file: bytes of a number, and the sum, of the reference. No condition. -/
import Derived.Test.YtaebgjdaoloceaaPPut
import Derived.Test.YtaebgjdaoloceaaPSumP
import Derived.Test.YtaebgjdaoloceaaQBmpPx6
import Derived.Test.YtaebgjdaoloceaaQBmpPx6
namespace Go.Proofs.Ytaebgjdaoloceaa.Pure
open Go.RowKit Go.Proofs.Ytaebgjdaoloceaa.QBmpP Go.Proofs.YtaebgjdaoloceaaW.PrintWords Go.Proofs.YtaebgjdaoloceaaW.PrintMore Go.Proofs.YtaebgjdaoloceaaV
theorem rbig_l0 : ∀ (m : Nat) (v : Int) (out : List Int), 0 ≤ v → v ≤ 9223372036854775807 → m ≤ out.length → out.length ≤ 281474976710656 → Ev (fun k => dioramaref01_Bytes.l0 k v out ((m : Int) - 1)) (bigS v m ++ out.drop m)
  | 0, v, out, _, _, _, _ => Ev.step (f := fun _ => some (bigS v 0 ++ out.drop 0)) (fun k => by simp only [dioramaref01_Bytes.l0]; rw [if_neg (by omega)]; simp [bigS]) (Ev.now _)
  | m + 1, v, out, hv, hv', h, hl => by
    have ih := rbig_l0 m (v / 256) (out.set m (v % 256)) (by omega) (by omega) (by simp; omega) (by simpa using hl)
    have e : bigS (v / 256) m ++ (out.set m (v % 256)).drop m = bigS v (m + 1) ++ out.drop (m + 1) := by
      rw [set_mid _ _ (by omega)]; simp [bigS]
    rw [e] at ih
    refine Ev.step (fun k => ?_) ih
    simp only [dioramaref01_Bytes.l0]
    have e1 : ((m + 1 : Nat) : Int) - 1 = (m : Int) := by omega
    have e2 : Int.tdiv v 256 = v / 256 := Int.tdiv_eq_ediv_of_nonneg hv
    have e3 : Int.tmod v 256 = v % 256 := Int.tmod_eq_emod_of_nonneg hv
    rw [e1, if_pos (by omega), if_pos (by omega), if_pos (by omega), w64 (x := (m : Int) - 1) (by omega) (by omega), e2, e3, w64 (by omega) (by omega), Int.toNat_natCast, Int.emod_emod_of_dvd _ (Int.dvd_refl _)]
theorem rbig_ev {v n : Int} (hv : 0 ≤ v) (hv' : v ≤ 9223372036854775807) (h0 : 0 ≤ n) (h1 : n ≤ 4294967296) : Ev (fun k => dioramaref01_Bytes.f k v n) (bigS v n.toNat) := by
  obtain ⟨m, rfl⟩ := Int.eq_ofNat_of_zero_le h0
  have h := rbig_l0 m v (List.replicate m 0) hv hv' (by simp) (by simp; omega)
  rw [List.drop_of_length_le (by simp), List.append_nil] at h
  unfold dioramaref01_Bytes.f
  simp only [if_pos h0, Int.toNat_natCast]
  simp only [if_pos (show m ≤ 281474976710656 by omega)]
  rw [w64 (by omega) (by omega)]
  exact h
/-- The bytes of a number, or the error. -/
theorem rsum_l1 {y : List Int} {i r : Int} : ∀ (n : Nat), n ≤ 8 → ∀ (s : Nat), s < 4294967296 → Ev (fun k => dioramaref01_Sum.l0 k y (crcBits n s : Nat) (wrap64 (i + 1))) r → Ev (fun k => dioramaref01_Sum.l1 k y (s : Int) i (8 - (n : Int))) r
  | 0, _, s, _, h => Ev.step (fun k => by simp only [dioramaref01_Sum.l1]; rw [if_neg (by omega)]; rfl) h
  | n + 1, hn, s, hs, h => by
    refine Ev.step (f := fun k => dioramaref01_Sum.l1 k y ((crcBit s : Nat) : Int) i (8 - (n : Int))) (fun k => ?_) (rsum_l1 n (by omega) _ (crcBit_lt hs) h)
    simp only [dioramaref01_Sum.l1]
    rw [if_pos (by omega), and1_u32 hs, w64 (by omega) (by omega)]
    have e : (8 - ((n + 1 : Nat) : Int)) + 1 = 8 - (n : Int) := by omega
    rw [e]
    unfold crcBit
    by_cases h1 : s % 2 = 1
    · rw [if_pos (by omega), if_pos h1]
      have this : Go.bits .xor .u32 ((s / 2 : Nat) : Int) 3558460437 = ((s / 2 ^^^ 3558460437 : Nat) : Int) := u32_xor_nat (s / 2) 3558460437 (by omega) (by decide)
      have e2 : ((s : Int) / 2) = ((s / 2 : Nat) : Int) := by omega
      rw [e2]
      rw [this]
    · rw [if_neg (by omega), if_neg h1]
      have e2 : ((s : Int) / 2) = ((s / 2 : Nat) : Int) := by omega
      rw [e2]
theorem rsum_l0 : ∀ (t pre : List Int) (s : Nat), s < 4294967296 → (∀ y ∈ t, 0 ≤ y ∧ y ≤ 255) → (pre ++ t).length ≤ 9223372036854775807 → Ev (fun k => dioramaref01_Sum.l0 k (pre ++ t) (s : Int) (pre.length : Int)) ((crc s t ^^^ 4294967295 : Nat) : Int)
  | [], pre, s, hs, _, _ => Ev.step (f := fun _ => some ((s ^^^ 4294967295 : Nat) : Int)) (fun k => by
      simp only [dioramaref01_Sum.l0]
      rw [if_neg (by simp)]
      have this : Go.bits .xor .u32 (s : Int) 4294967295 = ((s ^^^ 4294967295 : Nat) : Int) := u32_xor_nat s 4294967295 hs (by decide)
      rw [this]) (Ev.now _)
  | c :: t, pre, s, hs, hb, hl => by
    have hc := hb c (by simp)
    have ih := rsum_l0 t (pre ++ [c]) (crcBits 8 (s ^^^ c.toNat)) (crcBits_lt 8 (xor_lt32 hs (by omega))) (fun y hy => hb y (List.mem_cons_of_mem _ hy)) (by simpa using hl)
    have e1 : pre ++ [c] ++ t = pre ++ c :: t := by simp
    have e2 : ((pre ++ [c]).length : Int) = wrap64 ((pre.length : Int) + 1) := by
      simp only [List.length_append, List.length_cons, List.length_nil] at hl ⊢
      rw [w64 (by omega) (by omega)]; omega
    rw [e1, e2] at ih
    have ih2 := rsum_l1 8 (by decide) (s ^^^ c.toNat) (xor_lt32 hs (by omega)) ih
    refine Ev.step (fun k => ?_) ih2
    simp only [dioramaref01_Sum.l0]
    rw [if_pos (by simp; omega), if_pos (by omega)]
    have er : rd (pre ++ c :: t) (pre.length : Int) = c := by simp [rd]
    rw [er]
    have := u32_xor_nat s c.toNat hs (by omega)
    have ec : ((c.toNat : Nat) : Int) = c % 4294967296 := by omega
    rw [ec] at this
    rw [this]
    rfl
theorem rsum_ev {l : List Int} (hl : l.length ≤ 9223372036854775807) (hb : ∀ y ∈ l, 0 ≤ y ∧ y ≤ 255) : Ev (fun k => dioramaref01_Sum.f k l) (sumS l) :=
  rsum_l0 l [] 4294967295 (by decide) hb (by simpa using hl)
end Go.Proofs.Ytaebgjdaoloceaa.Pure
