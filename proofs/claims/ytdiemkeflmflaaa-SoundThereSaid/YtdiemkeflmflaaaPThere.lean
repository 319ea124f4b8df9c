/- A lemma file: what a predictor leaves gives the numbers back. No condition. -/
import Derived.Test.YtdiemkeflmflaaaVPlain
import Derived.Test.YtdiemkeflmflaaaQSoundx15
namespace Go.Proofs.Ytdiemkeflmflaaa.PureI
open Go.RowKit Go.Proofs.Ytdiemkeflmflaaa.QSound Go.Proofs.YtdiemkeflmflaaaW.PrintWords Go.Proofs.YtdiemkeflmflaaaV
def lv (l : List Int) (o n k : Nat) : Int := wrap64 (rd l ((n + k : Nat) : Int) - predF o (leftS l o n k).1 (bef l (n + k)))
theorem leftS_succ (l : List Int) (o n k : Nat) : leftS l o n (k + 1) = (learnF (lv l o n k) (bef l (n + k)) (leftS l o n k).1 4, (leftS l o n k).2 ++ [lv l o n k]) := rfl
theorem leftS_rd (l : List Int) (o n k : Nat) : ∀ d, rd (leftS l o n (k + 1 + d)).2 (k : Int) = lv l o n k
  | 0 => by
    have h := leftS_length l o n k
    rw [Nat.add_zero, leftS_succ]
    simp only [rd, Int.toNat_natCast]
    rw [List.getD_eq_getElem?_getD, List.getElem?_append_right (by omega), h]
    simp
  | d + 1 => by
    have h := leftS_length l o n (k + 1 + d)
    rw [show k + 1 + (d + 1) = (k + 1 + d) + 1 from rfl, leftS_succ]
    have ih := leftS_rd l o n k d
    simp only [rd, Int.toNat_natCast] at ih ⊢
    rw [List.getD_eq_getElem?_getD] at ih ⊢
    rw [List.getElem?_append_left (by omega)]
    exact ih
theorem out_rd {l : List Int} {m : Int} (h : l.any (out m) = false) {i : Nat} (hi : i < l.length) : out m (rd l (i : Int)) = false := by
  have := List.any_eq_false.mp h (rd l (i : Int)) (by simp [rd, List.getD_eq_getElem?_getD, List.getElem?_eq_getElem hi])
  simpa using this
theorem back (l : List Int) (o n m : Nat) (hb : l.any (out 67108864) = false) (hn : n + m = l.length) : ∀ k, k ≤ m → restI o (l.take n) (leftS l o n m).2 k = ((leftS l o n k).1, l.take (n + k)) ∧ restOk o (l.take n) (leftS l o n m).2 k = true
  | 0, _ => ⟨rfl, rfl⟩
  | k + 1, hk => by
    obtain ⟨h1, h2⟩ := back l o n m hb hn k (by omega)
    have e1 : rd (leftS l o n m).2 (k : Int) = lv l o n k := by
      have := leftS_rd l o n k (m - (k + 1))
      rwa [show k + 1 + (m - (k + 1)) = m by omega] at this
    have hlv : lv l o n k = wrap64 (rd l ((n + k : Nat) : Int) - predF o (leftS l o n k).1 (bef l (n + k))) := rfl
    have e5 : n + (k + 1) = n + k + 1 := rfl
    have htl : n + k < l.length := by omega
    rw [leftS_succ, e5]
    obtain ⟨t, ht⟩ : ∃ t, n + k = t := ⟨_, rfl⟩
    rw [ht] at h1 hlv htl ⊢
    have e2 : bef (l.take t) (l.take t).length = bef l t := bef_take (by omega)
    have ho := out_rd hb (i := t) (by omega)
    have e3 : wrap64 (predF o (leftS l o n k).1 (bef l t) + lv l o n k) = rd l (t : Int) := by
      rw [hlv]
      simp only [out, Bool.or_eq_false_iff, Bool.not_eq_false', decide_eq_true_eq] at ho
      unfold wrap64
      omega
    have e4 : l.take t ++ [rd l (t : Int)] = l.take (t + 1) := by
      rw [List.take_add_one, List.getElem?_eq_getElem htl]
      simp [rd, List.getD_eq_getElem?_getD, List.getElem?_eq_getElem htl]
    refine ⟨?_, ?_⟩
    · rw [restI, h1]
      simp only [e1, e2, e3, e4]
    · rw [restOk, h2, restV, h1]
      simp only [e1, e2, e3, ho]
      rfl
/-- What is left gives the numbers back. -/
theorem restF_left (l : List Int) (o : Int) (h : (leftF l o).2.2 = 0) (hd : (leftF l o).2.1.any (out 2147483648) = false) : restF (leftF l o).1 (leftF l o).2.1 o = (l, 0) := by
  unfold leftF at h hd ⊢
  by_cases c1 : o < 0 ∨ 5 < o ∨ l.any (out 67108864) = true
  · rw [if_pos c1] at h; simp at h
  · rw [if_neg c1] at h hd ⊢
    by_cases c2 : 16384 < l.length
    · rw [if_pos c2] at h; simp at h
    · rw [if_neg c2] at h hd ⊢
      have hb : l.any (out 67108864) = false := by
        cases hq : l.any (out 67108864) with
        | true => exact absurd (.inr (.inr hq)) c1
        | false => rfl
      have hw : warmN o.toNat l.length ≤ l.length := by unfold warmN; split <;> omega
      obtain ⟨n, hn⟩ : ∃ n, warmN o.toNat l.length = n := ⟨_, rfl⟩
      rw [hn] at hw hd ⊢
      obtain ⟨m, hm⟩ : ∃ m, l.length - n = m := ⟨_, rfl⟩
      rw [hm] at hd ⊢
      have hle := leftS_length l o.toNat n m
      have hlt : (l.take n).length = n := by simp; omega
      have hwt : (l.take n).any (out 67108864) = false := by
        rw [List.any_eq_false] at hb ⊢
        exact fun x hx => hb x (List.mem_of_mem_take hx)
      simp only
      rw [restF, if_neg (by
        simp only [] at hd
        rintro (h | h | h | h)
        · exact c1 (.inl h)
        · exact c1 (.inr (.inl h))
        · rw [hwt] at h; cases h
        · rw [hd] at h; cases h), hle, hlt, if_neg (by rw [show n + m = l.length by omega, hn]; simp), if_neg (by omega)]
      obtain ⟨h1, h2⟩ := back l o.toNat n m hb (by omega) m (Nat.le_refl _)
      rw [restR, hle, if_pos h2, h1]
      simp only
      rw [show n + m = l.length by omega, List.take_length]
end Go.Proofs.Ytdiemkeflmflaaa.PureI
