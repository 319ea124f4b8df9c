/- A lemma file: reading and writing whole numbers in bytes, of the program and of the reference, as functions on lists. No condition. -/
import Derived.Test.YtlhdfdedhdcmiaaVPlain
import Derived.Test.YtlhdfdedhdcmiaaQBitsx21
import Derived.Test.YtlhdfdedhdcmiaaQBitsx22
import Derived.Test.YtlhdfdedhdcmiaaQBitsx23
import Derived.Test.YtlhdfdedhdcmiaaQBitsx25
import Derived.Test.YtlhdfdedhdcmiaaQBitsx26
namespace Go.Proofs.Ytlhdfdedhdcmiaa.Pure
open Go.RowKit Go.Proofs.Ytlhdfdedhdcmiaa.QBits Go.Proofs.YtlhdfdedhdcmiaaW.PrintWords Go.Proofs.YtlhdfdedhdcmiaaW.PrintMore Go.Proofs.YtlhdfdedhdcmiaaV
/-- The n lowest bytes of a number, the highest first. -/
def bigS : Int → Nat → List Int
  | _, 0 => []
  | v, n + 1 => bigS (v / 256) n ++ [v % 256]
theorem bigS_length : ∀ (n : Nat) (v : Int), (bigS v n).length = n
  | 0, _ => rfl
  | n + 1, v => by simp [bigS, bigS_length n]
theorem set_mid (out : List Int) (m : Nat) (h : m < out.length) (v : Int) : (out.set m v).drop m = v :: out.drop (m + 1) := by
  rw [List.drop_eq_getElem_cons (by simpa using h), List.drop_set_of_lt (by omega)]
  simp
theorem big_l0 : ∀ (m : Nat) (v : Int) (out : List Int), m ≤ out.length → out.length ≤ 281474976710656 → Ev (fun k => bits_big.l0 k v out ((m : Int) - 1)) (bigS v m ++ out.drop m)
  | 0, v, out, _, _ => Ev.step (f := fun _ => some (bigS v 0 ++ out.drop 0)) (fun k => by simp only [bits_big.l0]; rw [if_neg (by omega)]; simp [bigS]) (Ev.now _)
  | m + 1, v, out, h, hl => by
    have ih := big_l0 m (v / 256) (out.set m (v % 256)) (by simp; omega) (by simpa using hl)
    have e : bigS (v / 256) m ++ (out.set m (v % 256)).drop m = bigS v (m + 1) ++ out.drop (m + 1) := by
      rw [set_mid _ _ (by omega)]; simp [bigS]
    rw [e] at ih
    refine Ev.step (fun k => ?_) ih
    simp only [bits_big.l0]
    have e1 : ((m + 1 : Nat) : Int) - 1 = (m : Int) := by omega
    rw [e1, if_pos (by omega), if_pos (by omega), if_pos (by omega), w64 (by omega) (by omega), Int.toNat_natCast]
theorem big_ev {v n : Int} (h0 : 0 ≤ n) (h1 : n ≤ 4294967296) : Ev (fun k => bits_big.f k v n) (bigS v n.toNat) := by
  obtain ⟨m, rfl⟩ := Int.eq_ofNat_of_zero_le h0
  have h := big_l0 m v (List.replicate m 0) (by simp) (by simp; omega)
  rw [List.drop_of_length_le (by simp), List.append_nil] at h
  unfold bits_big.f
  simp only [if_pos h0, Int.toNat_natCast]
  simp only [if_pos (show m ≤ 281474976710656 by omega)]
  rw [w64 (by omega) (by omega)]
  exact h
theorem rbig_l0 : ∀ (m : Nat) (v : Int) (out : List Int), 0 ≤ v → v ≤ 9223372036854775807 → m ≤ out.length → out.length ≤ 281474976710656 → Ev (fun k => dioramaref01_Bytes.l0 k v out ((m : Int) - 1)) (bigS v m ++ out.drop m)
  | 0, v, out, _, _, _, _ => Ev.step (f := fun _ => some (bigS v 0 ++ out.drop 0)) (fun k => by simp only [dioramaref01_Bytes.l0]; rw [if_neg (by omega)]; simp [bigS]) (Ev.now _)
  | m + 1, v, out, hv, hv', h, hl => by
    have ih := rbig_l0 m (v / 256) (out.set m (v % 256)) (by omega) (by omega) (by simp; omega) (by simpa using hl)
    have e : bigS (v / 256) m ++ (out.set m (v % 256)).drop m = bigS v (m + 1) ++ out.drop (m + 1) := by
      rw [set_mid _ _ (by omega)]; simp [bigS]
    rw [e] at ih
    refine Ev.step (fun k => ?_) ih
    simp only [dioramaref01_Bytes.l0]
    have e1 : ((m + 1 : Nat) : Int) - 1 = (m : Int) := by omega
    have e2 : Int.tdiv v 256 = v / 256 := Int.tdiv_eq_ediv_of_nonneg hv
    have e3 : Int.tmod v 256 = v % 256 := Int.tmod_eq_emod_of_nonneg hv
    rw [e1, if_pos (by omega), if_pos (by omega), if_pos (by omega), w64 (x := (m : Int) - 1) (by omega) (by omega), e2, e3, w64 (by omega) (by omega), Int.toNat_natCast, Int.emod_emod_of_dvd _ (Int.dvd_refl _)]
theorem rbig_ev {v n : Int} (hv : 0 ≤ v) (hv' : v ≤ 9223372036854775807) (h0 : 0 ≤ n) (h1 : n ≤ 4294967296) : Ev (fun k => dioramaref01_Bytes.f k v n) (bigS v n.toNat) := by
  obtain ⟨m, rfl⟩ := Int.eq_ofNat_of_zero_le h0
  have h := rbig_l0 m v (List.replicate m 0) hv hv' (by simp) (by simp; omega)
  rw [List.drop_of_length_le (by simp), List.append_nil] at h
  unfold dioramaref01_Bytes.f
  simp only [if_pos h0, Int.toNat_natCast]
  simp only [if_pos (show m ≤ 281474976710656 by omega)]
  rw [w64 (by omega) (by omega)]
  exact h
/-- The bytes of a number, or the error. -/
def putS (v n : Int) : List Int × Int := if n < 1 ∨ n > 8 ∨ v < 0 ∨ n < 8 ∧ v ≥ 2 ^ (8 * n.toNat) then ([], 1) else (bigS v n.toNat, 0)
theorem u64w {v : Int} (h : 0 ≤ v) (h' : v ≤ 18446744073709551615) : IntKind.u64.wrap v = v := by rw [IntKind.wrap_u64]; omega
theorem put_ev {v n : Int} (hv : v ≤ 9223372036854775807) : Ev (fun k => bits_PutInt.f k v n) (putS v n) := by
  unfold bits_PutInt.f putS
  by_cases h1 : n < 1
  · simp only [if_pos h1, if_pos (show n < 1 ∨ n > 8 ∨ v < 0 ∨ n < 8 ∧ v ≥ 2 ^ (8 * n.toNat) by omega)]; exact Ev.now _
  · by_cases h2 : n > 8
    · simp only [if_neg h1, if_pos h2, if_pos (show n < 1 ∨ n > 8 ∨ v < 0 ∨ n < 8 ∧ v ≥ 2 ^ (8 * n.toNat) by omega)]; exact Ev.now _
    · by_cases h3 : v < 0
      · simp only [if_neg h1, if_neg h2, if_pos h3, if_pos (show n < 1 ∨ n > 8 ∨ v < 0 ∨ n < 8 ∧ v ≥ 2 ^ (8 * n.toNat) by omega)]; exact Ev.now _
      · have hb := big_ev (v := v) (n := n) (by omega) (by omega)
        by_cases h4 : n < 8
        · simp only [if_neg h1, if_neg h2, if_neg h3, if_pos h4]
          rw [w64 (by omega) (by omega), u64w (by omega) (by omega)]
          simp only [if_pos (show 0 ≤ 8 * n by omega)]
          have es : shr .i64 v (8 * n) = v / 2 ^ (8 * n.toNat) := by
            unfold shr
            have : min (8 * n).toNat IntKind.i64.bits = 8 * n.toNat := by simp only [IntKind.bits]; omega
            rw [this]
          rw [es]
          have hp : (0 : Int) < 2 ^ (8 * n.toNat) := Int.pow_pos (by decide)
          by_cases h5 : v ≥ 2 ^ (8 * n.toNat)
          · have : v / 2 ^ (8 * n.toNat) > 0 := by
              have := Int.le_ediv_of_mul_le (a := 1) hp (by simpa using h5)
              omega
            simp only [if_pos this, if_pos (show n < 1 ∨ n > 8 ∨ v < 0 ∨ n < 8 ∧ v ≥ 2 ^ (8 * n.toNat) from .inr (.inr (.inr ⟨h4, h5⟩)))]
            exact Ev.now _
          · have : v / 2 ^ (8 * n.toNat) = 0 := Int.ediv_eq_zero_of_lt (by omega) (by omega)
            rw [this]
            simp only [if_neg (show ¬ (0 : Int) > 0 by decide), if_neg (show ¬ (n < 1 ∨ n > 8 ∨ v < 0 ∨ n < 8 ∧ v ≥ 2 ^ (8 * n.toNat)) from fun h => h.elim h1 (fun h => h.elim h2 (fun h => h.elim h3 (fun h => h5 h.2))))]
            exact Ev.bind hb (Ev.now _)
        · simp only [if_neg h1, if_neg h2, if_neg h3, if_neg h4]
          rw [u64w (by omega) (by omega), if_neg (show ¬ (n < 1 ∨ n > 8 ∨ v < 0 ∨ n < 8 ∧ v ≥ 2 ^ (8 * n.toNat)) from fun h => h.elim h1 (fun h => h.elim h2 (fun h => h.elim h3 (fun h => h4 h.1))))]
          exact Ev.bind hb (Ev.now _)
theorem pow_le56 (m : Nat) (h : m ≤ 7) : (2 : Int) ^ (8 * m) ≤ 72057594037927936 := by
  have : m = 0 ∨ m = 1 ∨ m = 2 ∨ m = 3 ∨ m = 4 ∨ m = 5 ∨ m = 6 ∨ m = 7 := by omega
  rcases this with rfl | rfl | rfl | rfl | rfl | rfl | rfl | rfl <;> decide
theorem rput_ev {v n : Int} (hv : v ≤ 9223372036854775807) : Ev (fun k => dioramaref01_PutInt.f k v n) (putS v n) := by
  unfold dioramaref01_PutInt.f putS
  by_cases h1 : n < 1
  · simp only [if_pos h1, if_pos (show n < 1 ∨ n > 8 ∨ v < 0 ∨ n < 8 ∧ v ≥ 2 ^ (8 * n.toNat) by omega)]; exact Ev.now _
  · by_cases h2 : n > 8
    · simp only [if_neg h1, if_pos h2, if_pos (show n < 1 ∨ n > 8 ∨ v < 0 ∨ n < 8 ∧ v ≥ 2 ^ (8 * n.toNat) by omega)]; exact Ev.now _
    · by_cases h3 : v < 0
      · simp only [if_neg h1, if_neg h2, if_pos h3, if_pos (show n < 1 ∨ n > 8 ∨ v < 0 ∨ n < 8 ∧ v ≥ 2 ^ (8 * n.toNat) by omega)]; exact Ev.now _
      · have hb := rbig_ev (v := v) (n := n) (by omega) hv (by omega) (by omega)
        by_cases h4 : n < 8
        · simp only [if_neg h1, if_neg h2, if_neg h3, if_pos h4]
          rw [w64 (by omega) (by omega), u64w (by omega) (by omega)]
          simp only [if_pos (show 0 ≤ 8 * n by omega)]
          have es : shl .i64 1 (8 * n) = 2 ^ (8 * n.toNat) := by
            unfold shl
            have : min (8 * n).toNat IntKind.i64.bits = 8 * n.toNat := by simp only [IntKind.bits]; omega
            rw [this, Int.one_mul, IntKind.wrap_i64]
            have := pow_le56 n.toNat (by omega)
            have hp : (0 : Int) < 2 ^ (8 * n.toNat) := Int.pow_pos (by decide)
            omega
          rw [es]
          by_cases h5 : v ≥ 2 ^ (8 * n.toNat)
          · simp only [if_pos h5, if_pos (show n < 1 ∨ n > 8 ∨ v < 0 ∨ n < 8 ∧ v ≥ 2 ^ (8 * n.toNat) from .inr (.inr (.inr ⟨h4, h5⟩)))]
            exact Ev.now _
          · simp only [if_neg h5, if_neg (show ¬ (n < 1 ∨ n > 8 ∨ v < 0 ∨ n < 8 ∧ v ≥ 2 ^ (8 * n.toNat)) from fun h => h.elim h1 (fun h => h.elim h2 (fun h => h.elim h3 (fun h => h5 h.2))))]
            exact Ev.bind hb (Ev.now _)
        · simp only [if_neg h1, if_neg h2, if_neg h3, if_neg h4]
          rw [if_neg (show ¬ (n < 1 ∨ n > 8 ∨ v < 0 ∨ n < 8 ∧ v ≥ 2 ^ (8 * n.toNat)) from fun h => h.elim h1 (fun h => h.elim h2 (fun h => h.elim h3 (fun h => h4 h.1))))]
          exact Ev.bind hb (Ev.now _)
theorem eqb_l0 : ∀ (t u pre pre' : List Int), pre.length = pre'.length → (pre ++ t).length ≤ 9223372036854775807 → t.length = u.length → Ev (fun k => dioramaref00_EqBytes.l0 k (pre ++ t) (pre' ++ u) (pre.length : Int)) (decide (t = u))
  | [], [], pre, pre', _, _, _ => Ev.step (f := fun _ => some (decide (([] : List Int) = []))) (fun k => by simp only [dioramaref00_EqBytes.l0]; rw [if_neg (by simp)]; rfl) (Ev.now _)
  | a :: t, b :: u, pre, pre', h, hl, hu => by
    have hl2 := hl
    simp only [List.length_append, List.length_cons] at hl2 hu
    by_cases e : a = b
    · subst e
      have ih := eqb_l0 t u (pre ++ [a]) (pre' ++ [a]) (by simp [h]) (by simpa using hl) (by omega)
      have e1 : pre ++ [a] ++ t = pre ++ a :: t := by simp
      have e1' : pre' ++ [a] ++ u = pre' ++ a :: u := by simp
      have e2 : ((pre ++ [a]).length : Int) = wrap64 ((pre.length : Int) + 1) := by
        simp only [List.length_append, List.length_cons, List.length_nil]
        rw [w64 (by omega) (by omega)]; omega
      have e3 : decide (t = u) = decide (a :: t = a :: u) := by simp
      rw [e1, e1', e2, e3] at ih
      refine Ev.step (fun k => ?_) ih
      simp only [dioramaref00_EqBytes.l0]
      rw [if_pos (by simp; omega), if_pos (by omega), if_pos (by simp; omega), if_pos (by simp [rd, h])]
    · refine Ev.step (f := fun _ => some (decide (a :: t = b :: u))) (fun k => ?_) (Ev.now _)
      simp only [dioramaref00_EqBytes.l0]
      rw [if_pos (by simp; omega), if_pos (by omega), if_pos (by simp; omega), if_neg (by simp [rd, h, e])]
      simp [e]
  | [], _ :: _, _, _, _, _, h => by simp at h
  | _ :: _, [], _, _, _, _, h => by simp at h
theorem eqb_ev {l u : List Int} (hl : l.length ≤ 9223372036854775807) : Ev (fun k => dioramaref00_EqBytes.f k l u) (decide (l = u)) := by
  unfold dioramaref00_EqBytes.f
  by_cases h : l.length = u.length
  · simp only [if_pos (show (l.length : Int) = (u.length : Int) by omega)]
    exact eqb_l0 l u [] [] rfl (by simpa using hl) h
  · simp only [if_neg (show ¬ (l.length : Int) = (u.length : Int) by omega)]
    have : decide (l = u) = false := decide_eq_false (fun e => h (by rw [e]))
    rw [this]
    exact Ev.now _
theorem putS_length {v n : Int} : (putS v n).1.length ≤ 8 := by
  unfold putS
  split
  · simp
  · simp only [bigS_length]; omega
/-! The number of bytes. -/
def numS (l : List Int) : Int := l.foldl (fun v c => v * 256 + c) 0
theorem numS_snoc (l : List Int) (c : Int) : numS (l ++ [c]) = numS l * 256 + c := by simp [numS]
theorem foldl_num : ∀ (t : List Int) (v : Int), t.foldl (fun v c => v * 256 + c) v = v * 256 ^ t.length + numS t
  | [], v => by simp [numS]
  | c :: t, v => by
    simp only [List.foldl_cons, List.length_cons, numS]
    rw [foldl_num t (v * 256 + c), foldl_num t (0 * 256 + c), Int.pow_succ]
    rw [Int.zero_mul, Int.zero_add, Int.add_mul, Int.mul_assoc, Int.mul_comm 256, Int.add_assoc]
theorem numS_cons (c : Int) (t : List Int) : numS (c :: t) = c * 256 ^ t.length + numS t := by
  show List.foldl _ (0 * 256 + c) t = _
  rw [Int.zero_mul, Int.zero_add]
  exact foldl_num t c
theorem numS_append (p t : List Int) : numS (p ++ t) = numS p * 256 ^ t.length + numS t := by
  unfold numS
  rw [List.foldl_append]
  exact foldl_num t _
theorem numS_bound : ∀ (l : List Int), (∀ y ∈ l, 0 ≤ y ∧ y ≤ 255) → 0 ≤ numS l ∧ numS l < 256 ^ l.length
  | [], _ => by simp [numS]
  | c :: t, h => by
    have hc := h c (by simp)
    have ih := numS_bound t (fun y hy => h y (List.mem_cons_of_mem _ hy))
    rw [numS_cons, List.length_cons, Int.pow_succ]
    have hp : (0 : Int) < 256 ^ t.length := Int.pow_pos (by decide)
    have h1 : 0 ≤ c * 256 ^ t.length := Int.mul_nonneg hc.1 (Int.le_of_lt hp)
    have h2 : c * 256 ^ t.length ≤ 255 * 256 ^ t.length := Int.mul_le_mul_of_nonneg_right hc.2 (Int.le_of_lt hp)
    omega
theorem numS_prefix (p t : List Int) (h : ∀ y ∈ p ++ t, 0 ≤ y ∧ y ≤ 255) : numS p ≤ numS (p ++ t) := by
  rw [numS_append]
  have h1 := numS_bound p (fun y hy => h y (List.mem_append_left _ hy))
  have h2 := numS_bound t (fun y hy => h y (List.mem_append_right _ hy))
  have hp : (1 : Int) ≤ 256 ^ t.length := by have : (0 : Int) < 256 ^ t.length := Int.pow_pos (by decide); omega
  have h3 : numS p * 1 ≤ numS p * 256 ^ t.length := Int.mul_le_mul_of_nonneg_left hp h1.1
  omega
theorem pow256_le (m : Nat) (h : m ≤ 7) : (256 : Int) ^ m ≤ 72057594037927936 := by
  have : m = 0 ∨ m = 1 ∨ m = 2 ∨ m = 3 ∨ m = 4 ∨ m = 5 ∨ m = 6 ∨ m = 7 := by omega
  rcases this with rfl | rfl | rfl | rfl | rfl | rfl | rfl | rfl <;> decide
theorem u64_or_byte {v c : Int} (h0 : 0 ≤ v) (h1 : v < 72057594037927936) (c0 : 0 ≤ c) (c1 : c ≤ 255) : Go.bits .or .u64 (v * 256) c = v * 256 + c :=
  bits_join .u64 64 (by decide) (fun n h h' => u64w h (by omega)) 8 (v * 256) c (by omega) (by omega) (by omega) c0 (by omega) (by omega)
theorem int_l0 : ∀ (t pre : List Int), (pre ++ t).length ≤ 8 → (∀ y ∈ pre ++ t, 0 ≤ y ∧ y ≤ 255) →
    Ev (fun k => bits_Int.l0 k (numS pre) (pre ++ t) ((pre ++ t).length : Int) (pre.length : Int)) (if numS (pre ++ t) > 9223372036854775807 then (0, 1) else (numS (pre ++ t), 0))
  | [], pre, hl, hb => Ev.step (f := fun _ => some (if numS (pre ++ []) > 9223372036854775807 then (0, 1) else (numS (pre ++ []), 0))) (fun k => by
      simp only [bits_Int.l0]
      rw [if_neg (by simp)]
      simp only [List.append_nil] at hb ⊢
      have := (numS_bound pre hb).1
      by_cases h : numS pre > 9223372036854775807
      · rw [if_pos h, if_pos h]
      · rw [if_neg h, if_neg h, w64 (by omega) (by omega)]) (Ev.now _)
  | c :: t, pre, hl, hb => by
    have ih := int_l0 t (pre ++ [c]) (by simpa using hl) (by simpa using hb)
    have e1 : pre ++ [c] ++ t = pre ++ c :: t := by simp
    simp only [List.length_append, List.length_cons] at hl
    have e2 : ((pre ++ [c]).length : Int) = wrap64 ((pre.length : Int) + 1) := by
      simp only [List.length_append, List.length_cons, List.length_nil]
      rw [w64 (by omega) (by omega)]; omega
    rw [e1, e2, numS_snoc] at ih
    refine Ev.step (fun k => ?_) ih
    simp only [bits_Int.l0]
    have hc := hb c (by simp)
    have hp := numS_bound pre (fun y hy => hb y (List.mem_append_left _ hy))
    have hp2 := pow256_le pre.length (by omega)
    have er : rd (pre ++ c :: t) (pre.length : Int) = c := by simp [rd]
    rw [if_pos (by simp; omega), if_pos (by omega), if_pos (by simp; omega), er, u64w (v := c) (by omega) (by omega), u64w (v := numS pre * 256) (by omega) (by omega), u64_or_byte (by omega) (by omega) hc.1 hc.2]
/-- The number of n bytes at a place, or the error. -/
def intS (l : List Int) (a n : Int) : Int × Int :=
  if n < 1 ∨ n > 8 ∨ a < 0 then (0, 1) else if a + n > l.length then (0, 3) else
    if numS ((l.take (a + n).toNat).drop a.toNat) > 9223372036854775807 then (0, 1) else (numS ((l.take (a + n).toNat).drop a.toNat), 0)
theorem cut_len (l : List Int) (a n : Nat) (h : a + n ≤ l.length) : ((l.take (a + n)).drop a).length = n := by simp; omega
theorem cut_get (l : List Int) (a n i : Nat) (hi : i < n) : ((l.take (a + n)).drop a)[i]? = l[a + i]? := by
  rw [List.getElem?_drop, List.getElem?_take]
  rw [if_pos (by omega)]
theorem int_ev {l : List Int} {a n : Int} (hl : l.length ≤ 9223372036854775807) (hb : ∀ y ∈ l, 0 ≤ y ∧ y ≤ 255) : Ev (fun k => bits_Int.f k l a n) (intS l a n) := by
  unfold bits_Int.f
  by_cases h1 : n < 1
  · simp only [if_pos h1]
    refine Ev.step (f := fun _ => some (intS l a n)) (fun k => ?_) (Ev.now _)
    simp only [bits_Int.j0]; unfold intS; rw [if_pos trivial, if_pos (by omega)]
  · by_cases h2 : n > 8
    · simp only [if_neg h1, if_pos h2]
      refine Ev.step (f := fun _ => some (intS l a n)) (fun k => ?_) (Ev.now _)
      simp only [bits_Int.j0]; unfold intS; rw [if_pos trivial, if_pos (by omega)]
    · by_cases h3 : a < 0
      · simp only [if_neg h1, if_neg h2]
        refine Ev.step (f := fun _ => some (intS l a n)) (fun k => ?_) (Ev.now _)
        simp only [bits_Int.j0]; unfold intS; rw [if_pos (by simpa using h3), if_pos (by omega)]
      · simp only [if_neg h1, if_neg h2]
        have key : ∀ b : Bool, b = decide (a + n > l.length) → (a ≤ l.length ∨ b = true) → Ev (fun k => bits_Int.j1 k l a n b) (intS l a n) := by
          intro b hb1 hb2
          by_cases h4 : a + n > l.length
          · have hbt : b = true := by rw [hb1]; simpa using h4
            subst hbt
            refine Ev.step (f := fun _ => some (intS l a n)) (fun k => ?_) (Ev.now _)
            simp only [bits_Int.j1]; unfold intS; rw [if_pos trivial, if_neg (by omega), if_pos h4]
          · have hbt : b = false := by rw [hb1]; simpa using h4
            subst hbt
            obtain ⟨an, rfl⟩ := Int.eq_ofNat_of_zero_le (show 0 ≤ a by omega)
            obtain ⟨nn, rfl⟩ := Int.eq_ofNat_of_zero_le (show 0 ≤ n by omega)
            have hle : an + nn ≤ l.length := by omega
            have e0 : ((an : Int) + (nn : Int)).toNat = an + nn := by omega
            have hy := int_l0 ((l.take (an + nn)).drop an) [] (by rw [List.nil_append, cut_len _ _ _ hle]; omega) (fun y hy => hb y (List.mem_of_mem_take (List.mem_of_mem_drop (by simpa using hy))))
            have hi : intS l (an : Int) (nn : Int) = if numS ((l.take (an + nn)).drop an) > 9223372036854775807 then (0, 1) else (numS ((l.take (an + nn)).drop an), 0) := by
              unfold intS; rw [if_neg (by omega), if_neg h4, e0, Int.toNat_natCast]
            rw [hi]
            refine Ev.step (fun k => ?_) hy
            simp only [bits_Int.j1]
            rw [if_neg (by simp), w64 (by omega) (by omega), if_pos (by omega), if_pos (by omega), if_pos (by omega), e0, Int.toNat_natCast]
            rfl
        by_cases h4 : a > l.length
        · refine Ev.step (fun k => ?_) (key true (by simp; omega) (.inr rfl))
          simp only [bits_Int.j0]
          rw [if_neg (by simpa using h3), if_pos h4]
        · refine Ev.step (fun k => ?_) (key (decide (wrap64 ((l.length : Int) - a) < n)) (by rw [w64 (by omega) (by omega)]; simp only [decide_eq_decide]; omega) (.inl (by omega)))
          simp only [bits_Int.j0]
          rw [if_neg (by simpa using h3), if_neg h4]
theorem rint_l0 {l : List Int} {a n : Nat} (hl : l.length ≤ 9223372036854775807) (hle : a + n ≤ l.length) (hn : n ≤ 8) : ∀ (t pre : List Int), (l.take (a + n)).drop a = pre ++ t → (∀ y ∈ pre ++ t, 0 ≤ y ∧ y ≤ 255) → numS (pre ++ t) ≤ 9223372036854775807 →
    Ev (fun k => dioramaref01_Int.l0 k l (a : Int) (n : Int) (numS pre) (pre.length : Int)) (numS (pre ++ t), 0)
  | [], pre, he, hb, _ => by
    have hlen := congrArg List.length he
    rw [cut_len _ _ _ hle] at hlen
    simp only [List.append_nil] at hlen ⊢
    refine Ev.step (f := fun _ => some (numS pre, 0)) (fun k => ?_) (Ev.now _)
    simp only [dioramaref01_Int.l0]
    rw [if_neg (by omega)]
  | c :: t, pre, he, hb, hm => by
    have hlen := congrArg List.length he
    rw [cut_len _ _ _ hle] at hlen
    have e1 : pre ++ [c] ++ t = pre ++ c :: t := by simp
    have ih := rint_l0 hl hle hn t (pre ++ [c]) (by rw [e1]; exact he) (by rw [e1]; exact hb) (by rw [e1]; exact hm)
    have hpre := numS_prefix (pre ++ [c]) t (by rw [e1]; exact hb)
    rw [e1, numS_snoc] at hpre
    simp only [List.length_append, List.length_cons] at hlen
    have e2 : ((pre ++ [c]).length : Int) = wrap64 ((pre.length : Int) + 1) := by
      simp only [List.length_append, List.length_cons, List.length_nil]
      rw [w64 (by omega) (by omega)]; omega
    rw [e1, e2, numS_snoc] at ih
    refine Ev.step (fun k => ?_) ih
    simp only [dioramaref01_Int.l0]
    have hc := hb c (by simp)
    have hp := numS_bound pre (fun y hy => hb y (List.mem_append_left _ hy))
    have er : rd l ((a : Int) + (pre.length : Int)) = c := by
      have h1 := cut_get l a n pre.length (by omega)
      rw [he] at h1
      have e3 : ((a : Int) + (pre.length : Int)).toNat = a + pre.length := by omega
      unfold rd
      rw [e3, List.getD_eq_getElem?_getD, ← h1]
      simp
    rw [w64 (x := (a : Int) + (pre.length : Int)) (by omega) (by omega), if_pos (by omega), if_pos (by omega), if_pos (by omega), er, w64 (x := c) (by omega) (by omega), w64 (x := numS pre * 256) (by omega) (by omega), w64 (x := numS pre * 256 + c) (by omega) (by omega)]
theorem rint_ev {l : List Int} {a n : Int} (hl : l.length ≤ 9223372036854775807) (hb : ∀ y ∈ l, 0 ≤ y ∧ y ≤ 255) : Ev (fun k => dioramaref01_Int.f k l a n) (intS l a n) := by
  unfold dioramaref01_Int.f
  by_cases h1 : n < 1
  · simp only [if_pos h1]
    refine Ev.step (f := fun _ => some (intS l a n)) (fun k => ?_) (Ev.now _)
    simp only [dioramaref01_Int.j0]; unfold intS; rw [if_pos trivial, if_pos (by omega)]
  · by_cases h2 : n > 8
    · simp only [if_neg h1, if_pos h2]
      refine Ev.step (f := fun _ => some (intS l a n)) (fun k => ?_) (Ev.now _)
      simp only [dioramaref01_Int.j0]; unfold intS; rw [if_pos trivial, if_pos (by omega)]
    · by_cases h3 : a < 0
      · simp only [if_neg h1, if_neg h2]
        refine Ev.step (f := fun _ => some (intS l a n)) (fun k => ?_) (Ev.now _)
        simp only [dioramaref01_Int.j0]; unfold intS; rw [if_pos (by simpa using h3), if_pos (by omega)]
      · simp only [if_neg h1, if_neg h2]
        by_cases h4 : a + n > l.length
        · refine Ev.step (f := fun _ => some (intS l a n)) (fun k => ?_) (Ev.now _)
          simp only [dioramaref01_Int.j0]; unfold intS; rw [if_neg (by simpa using h3), w64 (by omega) (by omega), if_pos (by omega), if_neg (by omega), if_pos h4]
        · obtain ⟨an, rfl⟩ := Int.eq_ofNat_of_zero_le (show 0 ≤ a by omega)
          obtain ⟨nn, rfl⟩ := Int.eq_ofNat_of_zero_le (show 0 ≤ n by omega)
          have hle : an + nn ≤ l.length := by omega
          have e0 : ((an : Int) + (nn : Int)).toNat = an + nn := by omega
          have hby : ∀ y ∈ (l.take (an + nn)).drop an, 0 ≤ y ∧ y ≤ 255 := fun y hy => hb y (List.mem_of_mem_take (List.mem_of_mem_drop hy))
          have hcl := cut_len _ _ _ hle
          have hnb := numS_bound _ hby
          have hi : intS l (an : Int) (nn : Int) = if numS ((l.take (an + nn)).drop an) > 9223372036854775807 then (0, 1) else (numS ((l.take (an + nn)).drop an), 0) := by
            unfold intS; rw [if_neg (by omega), if_neg h4, e0, Int.toNat_natCast]
          have key : ∀ b : Bool, b = decide (numS ((l.take (an + nn)).drop an) > 9223372036854775807) → Ev (fun k => dioramaref01_Int.j1 k l (an : Int) (nn : Int) b) (intS l an nn) := by
            intro b hb1
            rw [hi]
            by_cases h5 : numS ((l.take (an + nn)).drop an) > 9223372036854775807
            · have : b = true := by rw [hb1]; simpa using h5
              subst this
              rw [if_pos h5]
              refine Ev.step (f := fun _ => some (0, 1)) (fun k => ?_) (Ev.now _)
              simp only [dioramaref01_Int.j1]; rw [if_pos trivial]
            · have : b = false := by rw [hb1]; simpa using h5
              subst this
              rw [if_neg h5]
              have hz := rint_l0 hl hle (by omega) ((l.take (an + nn)).drop an) [] rfl (by simpa using hby) (by simpa using h5)
              refine Ev.step (fun k => ?_) hz
              simp only [dioramaref01_Int.j1]; rw [if_neg (by simp)]; rfl
          by_cases h6 : (nn : Int) = 8
          · have h6' : nn = 8 := by omega
            subst h6'
            obtain ⟨c, t, hct⟩ : ∃ c t, (l.take (an + 8)).drop an = c :: t := by
              match hq : (l.take (an + 8)).drop an, hcl with
              | c :: t, _ => exact ⟨c, t, rfl⟩
            have hr : rd l (an : Int) = c := by
              have h1 := cut_get l an 8 0 (by omega)
              rw [hct, Nat.add_zero] at h1
              unfold rd
              rw [Int.toNat_natCast, List.getD_eq_getElem?_getD, ← h1]
              simp
            have ht : t.length = 7 := by rw [hct] at hcl; simpa using hcl
            have hc := hby c (by rw [hct]; simp)
            have hb2 := numS_bound t (fun y hy => hby y (by rw [hct]; exact List.mem_cons_of_mem _ hy))
            rw [ht] at hb2
            have e7 : (256 : Int) ^ 7 = 72057594037927936 := by decide
            rw [e7] at hb2
            refine Ev.step (fun k => ?_) (key (decide (rd l (an : Int) ≥ 128)) (by
              rw [hr, hct, numS_cons, ht, e7]
              simp only [decide_eq_decide]
              omega))
            simp only [dioramaref01_Int.j0]
            rw [if_neg (by simp), w64 (by omega) (by omega), if_neg (by omega), if_pos h6, if_pos (by omega), if_pos (by omega)]
          · refine Ev.step (fun k => ?_) (key false (by
              have := pow256_le nn (by omega)
              rw [hcl] at hnb
              symm
              simp only [decide_eq_false_iff_not]
              omega))
            simp only [dioramaref01_Int.j0]
            rw [if_neg (by simp), w64 (by omega) (by omega), if_neg (by omega), if_neg h6]
end Go.Proofs.Ytlhdfdedhdcmiaa.Pure
