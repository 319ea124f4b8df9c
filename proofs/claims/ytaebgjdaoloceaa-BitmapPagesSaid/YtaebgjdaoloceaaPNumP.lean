/- A lemma file: reading whole numbers in bytes, of the program and of the reference, as a function on lists. No condition. -/
import Derived.Test.YtaebgjdaoloceaaVPlain
import Derived.Test.YtaebgjdaoloceaaQBmpPx2
namespace Go.Proofs.Ytaebgjdaoloceaa.Pure
open Go.RowKit Go.Proofs.Ytaebgjdaoloceaa.QBmpP Go.Proofs.YtaebgjdaoloceaaW.PrintWords Go.Proofs.YtaebgjdaoloceaaW.PrintMore Go.Proofs.YtaebgjdaoloceaaV
theorem u64w {v : Int} (h : 0 ≤ v) (h' : v ≤ 18446744073709551615) : IntKind.u64.wrap v = v := by rw [IntKind.wrap_u64]; omega
def numS (l : List Int) : Int := l.foldl (fun v c => v * 256 + c) 0
theorem numS_snoc (l : List Int) (c : Int) : numS (l ++ [c]) = numS l * 256 + c := by simp [numS]
theorem foldl_num : ∀ (t : List Int) (v : Int), t.foldl (fun v c => v * 256 + c) v = v * 256 ^ t.length + numS t
  | [], v => by simp [numS]
  | c :: t, v => by
    simp only [List.foldl_cons, List.length_cons, numS]
    rw [foldl_num t (v * 256 + c), foldl_num t (0 * 256 + c), Int.pow_succ]
    rw [Int.zero_mul, Int.zero_add, Int.add_mul, Int.mul_assoc, Int.mul_comm 256, Int.add_assoc]
theorem numS_cons (c : Int) (t : List Int) : numS (c :: t) = c * 256 ^ t.length + numS t := by
  show List.foldl _ (0 * 256 + c) t = _
  rw [Int.zero_mul, Int.zero_add]
  exact foldl_num t c
theorem numS_append (p t : List Int) : numS (p ++ t) = numS p * 256 ^ t.length + numS t := by
  unfold numS
  rw [List.foldl_append]
  exact foldl_num t _
theorem numS_bound : ∀ (l : List Int), (∀ y ∈ l, 0 ≤ y ∧ y ≤ 255) → 0 ≤ numS l ∧ numS l < 256 ^ l.length
  | [], _ => by simp [numS]
  | c :: t, h => by
    have hc := h c (by simp)
    have ih := numS_bound t (fun y hy => h y (List.mem_cons_of_mem _ hy))
    rw [numS_cons, List.length_cons, Int.pow_succ]
    have hp : (0 : Int) < 256 ^ t.length := Int.pow_pos (by decide)
    have h1 : 0 ≤ c * 256 ^ t.length := Int.mul_nonneg hc.1 (Int.le_of_lt hp)
    have h2 : c * 256 ^ t.length ≤ 255 * 256 ^ t.length := Int.mul_le_mul_of_nonneg_right hc.2 (Int.le_of_lt hp)
    omega
theorem numS_prefix (p t : List Int) (h : ∀ y ∈ p ++ t, 0 ≤ y ∧ y ≤ 255) : numS p ≤ numS (p ++ t) := by
  rw [numS_append]
  have h1 := numS_bound p (fun y hy => h y (List.mem_append_left _ hy))
  have h2 := numS_bound t (fun y hy => h y (List.mem_append_right _ hy))
  have hp : (1 : Int) ≤ 256 ^ t.length := by have : (0 : Int) < 256 ^ t.length := Int.pow_pos (by decide); omega
  have h3 : numS p * 1 ≤ numS p * 256 ^ t.length := Int.mul_le_mul_of_nonneg_left hp h1.1
  omega
theorem pow256_le (m : Nat) (h : m ≤ 7) : (256 : Int) ^ m ≤ 72057594037927936 := by
  have : m = 0 ∨ m = 1 ∨ m = 2 ∨ m = 3 ∨ m = 4 ∨ m = 5 ∨ m = 6 ∨ m = 7 := by omega
  rcases this with rfl | rfl | rfl | rfl | rfl | rfl | rfl | rfl <;> decide
theorem u64_or_byte {v c : Int} (h0 : 0 ≤ v) (h1 : v < 72057594037927936) (c0 : 0 ≤ c) (c1 : c ≤ 255) : Go.bits .or .u64 (v * 256) c = v * 256 + c :=
  bits_join .u64 64 (by decide) (fun n h h' => u64w h (by omega)) 8 (v * 256) c (by omega) (by omega) (by omega) c0 (by omega) (by omega)
theorem int_l0 : ∀ (t pre : List Int), (pre ++ t).length ≤ 8 → (∀ y ∈ pre ++ t, 0 ≤ y ∧ y ≤ 255) →
    Ev (fun k => bits_Int.l0 k (numS pre) (pre ++ t) ((pre ++ t).length : Int) (pre.length : Int)) (if numS (pre ++ t) > 9223372036854775807 then (0, 1) else (numS (pre ++ t), 0))
  | [], pre, hl, hb => Ev.step (f := fun _ => some (if numS (pre ++ []) > 9223372036854775807 then (0, 1) else (numS (pre ++ []), 0))) (fun k => by
      simp only [bits_Int.l0]
      rw [if_neg (by simp)]
      simp only [List.append_nil] at hb ⊢
      have := (numS_bound pre hb).1
      by_cases h : numS pre > 9223372036854775807
      · rw [if_pos h, if_pos h]
      · rw [if_neg h, if_neg h, w64 (by omega) (by omega)]) (Ev.now _)
  | c :: t, pre, hl, hb => by
    have ih := int_l0 t (pre ++ [c]) (by simpa using hl) (by simpa using hb)
    have e1 : pre ++ [c] ++ t = pre ++ c :: t := by simp
    simp only [List.length_append, List.length_cons] at hl
    have e2 : ((pre ++ [c]).length : Int) = wrap64 ((pre.length : Int) + 1) := by
      simp only [List.length_append, List.length_cons, List.length_nil]
      rw [w64 (by omega) (by omega)]; omega
    rw [e1, e2, numS_snoc] at ih
    refine Ev.step (fun k => ?_) ih
    simp only [bits_Int.l0]
    have hc := hb c (by simp)
    have hp := numS_bound pre (fun y hy => hb y (List.mem_append_left _ hy))
    have hp2 := pow256_le pre.length (by omega)
    have er : rd (pre ++ c :: t) (pre.length : Int) = c := by simp [rd]
    rw [if_pos (by simp; omega), if_pos (by omega), if_pos (by simp; omega), er, u64w (v := c) (by omega) (by omega), u64w (v := numS pre * 256) (by omega) (by omega), u64_or_byte (by omega) (by omega) hc.1 hc.2]
/-- The number of n bytes at a place, or the error. -/
def intS (l : List Int) (a n : Int) : Int × Int :=
  if n < 1 ∨ n > 8 ∨ a < 0 then (0, 1) else if a + n > l.length then (0, 3) else
    if numS ((l.take (a + n).toNat).drop a.toNat) > 9223372036854775807 then (0, 1) else (numS ((l.take (a + n).toNat).drop a.toNat), 0)
theorem cut_len (l : List Int) (a n : Nat) (h : a + n ≤ l.length) : ((l.take (a + n)).drop a).length = n := by simp; omega
theorem cut_get (l : List Int) (a n i : Nat) (hi : i < n) : ((l.take (a + n)).drop a)[i]? = l[a + i]? := by
  rw [List.getElem?_drop, List.getElem?_take]
  rw [if_pos (by omega)]
theorem int_ev {l : List Int} {a n : Int} (hl : l.length ≤ 9223372036854775807) (hb : ∀ y ∈ l, 0 ≤ y ∧ y ≤ 255) : Ev (fun k => bits_Int.f k l a n) (intS l a n) := by
  unfold bits_Int.f
  by_cases h1 : n < 1
  · simp only [if_pos h1]
    refine Ev.step (f := fun _ => some (intS l a n)) (fun k => ?_) (Ev.now _)
    simp only [bits_Int.j0]; unfold intS; rw [if_pos trivial, if_pos (by omega)]
  · by_cases h2 : n > 8
    · simp only [if_neg h1, if_pos h2]
      refine Ev.step (f := fun _ => some (intS l a n)) (fun k => ?_) (Ev.now _)
      simp only [bits_Int.j0]; unfold intS; rw [if_pos trivial, if_pos (by omega)]
    · by_cases h3 : a < 0
      · simp only [if_neg h1, if_neg h2]
        refine Ev.step (f := fun _ => some (intS l a n)) (fun k => ?_) (Ev.now _)
        simp only [bits_Int.j0]; unfold intS; rw [if_pos (by simpa using h3), if_pos (by omega)]
      · simp only [if_neg h1, if_neg h2]
        have key : ∀ b : Bool, b = decide (a + n > l.length) → (a ≤ l.length ∨ b = true) → Ev (fun k => bits_Int.j1 k l a n b) (intS l a n) := by
          intro b hb1 hb2
          by_cases h4 : a + n > l.length
          · have hbt : b = true := by rw [hb1]; simpa using h4
            subst hbt
            refine Ev.step (f := fun _ => some (intS l a n)) (fun k => ?_) (Ev.now _)
            simp only [bits_Int.j1]; unfold intS; rw [if_pos trivial, if_neg (by omega), if_pos h4]
          · have hbt : b = false := by rw [hb1]; simpa using h4
            subst hbt
            obtain ⟨an, rfl⟩ := Int.eq_ofNat_of_zero_le (show 0 ≤ a by omega)
            obtain ⟨nn, rfl⟩ := Int.eq_ofNat_of_zero_le (show 0 ≤ n by omega)
            have hle : an + nn ≤ l.length := by omega
            have e0 : ((an : Int) + (nn : Int)).toNat = an + nn := by omega
            have hy := int_l0 ((l.take (an + nn)).drop an) [] (by rw [List.nil_append, cut_len _ _ _ hle]; omega) (fun y hy => hb y (List.mem_of_mem_take (List.mem_of_mem_drop (by simpa using hy))))
            have hi : intS l (an : Int) (nn : Int) = if numS ((l.take (an + nn)).drop an) > 9223372036854775807 then (0, 1) else (numS ((l.take (an + nn)).drop an), 0) := by
              unfold intS; rw [if_neg (by omega), if_neg h4, e0, Int.toNat_natCast]
            rw [hi]
            refine Ev.step (fun k => ?_) hy
            simp only [bits_Int.j1]
            rw [if_neg (by simp), w64 (by omega) (by omega), if_pos (by omega), if_pos (by omega), if_pos (by omega), e0, Int.toNat_natCast]
            rfl
        by_cases h4 : a > l.length
        · refine Ev.step (fun k => ?_) (key true (by simp; omega) (.inr rfl))
          simp only [bits_Int.j0]
          rw [if_neg (by simpa using h3), if_pos h4]
        · refine Ev.step (fun k => ?_) (key (decide (wrap64 ((l.length : Int) - a) < n)) (by rw [w64 (by omega) (by omega)]; simp only [decide_eq_decide]; omega) (.inl (by omega)))
          simp only [bits_Int.j0]
          rw [if_neg (by simpa using h3), if_neg h4]
end Go.Proofs.Ytaebgjdaoloceaa.Pure
