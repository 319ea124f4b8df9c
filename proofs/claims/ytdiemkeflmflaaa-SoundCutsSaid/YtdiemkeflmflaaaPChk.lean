/- A lemma file: whether sound is valid, of both sides. No condition. -/
import Derived.Test.YtdiemkeflmflaaaVPlain
import Derived.Test.YtdiemkeflmflaaaQSoundx5
import Derived.Test.YtdiemkeflmflaaaQSoundx8
import Derived.Test.YtdiemkeflmflaaaQSoundx4
namespace Go.Proofs.Ytdiemkeflmflaaa.PureI
open Go.RowKit Go.Proofs.Ytdiemkeflmflaaa.QSound Go.Proofs.YtdiemkeflmflaaaW.PrintWords Go.Proofs.YtdiemkeflmflaaaW.PrintMore Go.Proofs.YtdiemkeflmflaaaV
theorem next_i {α : Type} (pre : List α) (a : α) (h : (pre.length : Int) + 1 ≤ 9223372036854775807) : ((pre ++ [a]).length : Int) = wrap64 ((pre.length : Int) + 1) := by
  simp only [List.length_append, List.length_cons, List.length_nil]
  rw [w64 (by omega) h]; omega
theorem rd_row {l pre rest : List (List Int)} {x : List Int} (h : pre ++ x :: rest = l) : rd_L1 l (pre.length : Int) = x := by
  rw [← h]; simp [rd_L1]
theorem rd_at {x q t : List Int} {a : Int} (h : q ++ a :: t = x) : rd x (q.length : Int) = a := by
  rw [← h]; simp [rd]
theorem in_f (v a b : Int) : dioramaref16_in.f v a b = some (decide (a ≤ v) && decide (v ≤ b)) := by
  unfold dioramaref16_in.f
  by_cases h : v ≥ a
  · rw [if_pos h, decide_eq_true h]; simp
  · rw [if_neg h, decide_eq_false h]; simp
section
variable {b : Int} {l : List (List Int)}
theorem rc_l2 {T r : Int} (hT : 1 ≤ T ∧ T ≤ 8388608) {pre rest : List (List Int)} {x : List Int} (hl : pre ++ x :: rest = l) (hx : x.length ≤ 9223372036854775807) :
    ∀ (t q : List Int), q ++ t = x → (x.any (oor T) = false → Ev (fun k => dioramaref16_Check.l1 k T (wrap64 ((pre.length : Int) + 1)) b l) r) → (x.any (oor T) = true → r = 1) → q.any (oor T) = false → Ev (fun k => dioramaref16_Check.l2 k T (pre.length : Int) (q.length : Int) b l) r
  | [], q, hq, h, _, hn => by
    obtain rfl : q = x := by simpa using hq
    refine Ev.step (fun k => ?_) (h hn)
    simp only [dioramaref16_Check.l2]
    rw [if_pos (by omega), if_pos (by rw [← hl]; simp; omega), rd_row hl, if_neg (by omega)]
  | a :: t, q, hq, h, h1, hn => by
    have hlen : q.length + (t.length + 1) = x.length := by rw [← hq]; simp
    have e1 : wrap64 (-T) = -T := by unfold wrap64; omega
    have e2 : wrap64 (T - 1) = T - 1 := by unfold wrap64; omega
    cases ho : oor T a with
    | true =>
      have hr := h1 (by rw [← hq]; simp [ho])
      subst hr
      refine Ev.step (f := fun _ => some 1) (fun k => ?_) (Ev.now _)
      simp only [dioramaref16_Check.l2]
      rw [if_pos (by omega), if_pos (by rw [← hl]; simp; omega), rd_row hl, if_pos (by omega), if_pos (by omega), rd_at hq, e1, e2, in_f]
      have : (decide (-T ≤ a) && decide (a ≤ T - 1)) = false := by
        simp [oor] at ho
        simp; omega
      rw [this]; rfl
    | false =>
      have ih := rc_l2 hT hl hx t (q ++ [a]) (by simpa using hq) h h1 (by rw [List.any_append, hn]; simp [ho])
      rw [next_i q a (by omega)] at ih
      refine Ev.step (fun k => ?_) ih
      simp only [dioramaref16_Check.l2]
      rw [if_pos (by omega), if_pos (by rw [← hl]; simp; omega), rd_row hl, if_pos (by omega), if_pos (by omega), rd_at hq, e1, e2, in_f]
      have : (decide (-T ≤ a) && decide (a ≤ T - 1)) = true := by
        simp [oor] at ho
        simp; omega
      rw [this]; rfl
theorem rc_l1 {T : Int} (hT : 1 ≤ T ∧ T ≤ 8388608) (hL : l.length ≤ 4) (hx : ∀ x ∈ l, x.length ≤ 9223372036854775807) : ∀ (t pre : List (List Int)), pre ++ t = l → pre.any (fun x => x.any (oor T)) = false →
    Ev (fun k => dioramaref16_Check.l1 k T (pre.length : Int) b l) (if l.any (fun x => x.any (oor T)) = true then 1 else 0)
  | [], pre, hp, hn => by
    obtain rfl : pre = l := by simpa using hp
    rw [if_neg (by rw [hn]; simp)]
    refine Ev.step (f := fun _ => some 0) (fun k => ?_) (Ev.now _)
    simp only [dioramaref16_Check.l1]
    rw [if_neg (by omega)]
  | x :: t, pre, hp, hn => by
    have hlen : pre.length + (t.length + 1) = l.length := by rw [← hp]; simp
    refine Ev.step (f := fun k => dioramaref16_Check.l2 k T (pre.length : Int) (([] : List Int).length : Int) b l) (fun k => ?_) ?_
    · simp only [dioramaref16_Check.l1]
      rw [if_pos (by omega)]; rfl
    · refine rc_l2 hT hp (hx x (by rw [← hp]; simp)) x [] rfl (fun h => ?_) (fun h => ?_) rfl
      · have ih := rc_l1 hT hL hx t (pre ++ [x]) (by simpa using hp) (by rw [List.any_append, hn]; simpa using h)
        rwa [next_i pre x (by omega)] at ih
      · rw [if_pos (by rw [← hp]; simp only [List.any_append, List.any_cons, h]; simp)]
theorem top_eq (h : 2 ≤ b ∧ b ≤ 24) : shl .i64 1 (wrap64 (b - 1)) = 2 ^ (b - 1).toNat ∧ 1 ≤ (2 : Int) ^ (b - 1).toNat ∧ (2 : Int) ^ (b - 1).toNat ≤ 8388608 := by
  have h2 : (0 : Int) < 2 ^ (b - 1).toNat := Int.pow_pos (by decide)
  have h3 : (2 : Nat) ^ (b - 1).toNat ≤ 2 ^ 23 := Nat.pow_le_pow_right (by decide) (by omega)
  have h4 : ((2 : Nat) ^ (b - 1).toNat : Int) = (2 : Int) ^ (b - 1).toNat := by norm_cast
  have e1 : wrap64 (b - 1) = b - 1 := by unfold wrap64; omega
  rw [e1]
  have e2 : min (b - 1).toNat IntKind.i64.bits = (b - 1).toNat := Nat.min_eq_left (show (b - 1).toNat ≤ 64 by omega)
  refine ⟨?_, by omega, by omega⟩
  unfold shl
  rw [e2, Int.one_mul, IntKind.wrap_i64]
  omega
theorem rc_l0 (hb : 2 ≤ b ∧ b ≤ 24) (hL : 1 ≤ l.length ∧ l.length ≤ 4) (hx : ∀ x ∈ l, x.length ≤ 9223372036854775807) : ∀ (t pre : List (List Int)), pre ++ t = l → pre.any (fun x => (x.length : Int) != len0 l) = false →
    Ev (fun k => dioramaref16_Check.l0 k (pre.length : Int) b l) (checkF b l)
  | [], pre, hp, hn => by
    obtain rfl : pre = l := by simpa using hp
    obtain ⟨e1, e2⟩ := top_eq hb
    have hw : 0 ≤ wrap64 (b - 1) := by unfold wrap64; omega
    unfold checkF
    rw [if_neg (by omega), if_neg (by rw [hn]; simp)]
    by_cases h16 : 16384 < len0 pre
    · rw [if_pos h16]
      refine Ev.step (f := fun _ => some 2) (fun k => ?_) (Ev.now _)
      simp only [dioramaref16_Check.l0]
      rw [if_neg (by omega), if_pos (by omega), show ((rd_L1 pre 0).length : Int) = len0 pre from rfl, if_pos h16]
    · rw [if_neg h16]
      refine Ev.step (f := fun k => dioramaref16_Check.l1 k (2 ^ (b - 1).toNat) (([] : List (List Int)).length : Int) b pre) (fun k => ?_) (rc_l1 e2 hL.2 hx pre [] rfl rfl)
      simp only [dioramaref16_Check.l0]
      rw [if_neg (by omega), if_pos (by omega), show ((rd_L1 pre 0).length : Int) = len0 pre from rfl, if_neg h16, if_pos hw, e1]
      rfl
  | x :: t, pre, hp, hn => by
    have hlen : pre.length + (t.length + 1) = l.length := by rw [← hp]; simp
    by_cases hx0 : (x.length : Int) = len0 l
    · have ih := rc_l0 hb hL hx t (pre ++ [x]) (by simpa using hp) (by rw [List.any_append, hn]; simp [hx0])
      rw [next_i pre x (by omega)] at ih
      refine Ev.step (fun k => ?_) ih
      simp only [dioramaref16_Check.l0]
      rw [if_pos (by omega), if_pos (by omega), if_pos (by omega), rd_row hp, show ((rd_L1 l 0).length : Int) = len0 l from rfl, if_pos hx0]
    · have : l.any (fun x => (x.length : Int) != len0 l) = true := by
        refine List.any_eq_true.mpr ⟨x, by rw [← hp]; simp, by simpa using hx0⟩
      unfold checkF
      rw [if_neg (by omega), if_pos this]
      refine Ev.step (f := fun _ => some 4) (fun k => ?_) (Ev.now _)
      simp only [dioramaref16_Check.l0]
      rw [if_pos (by omega), if_pos (by omega), if_pos (by omega), rd_row hp, show ((rd_L1 l 0).length : Int) = len0 l from rfl, if_neg hx0]
theorem ev_rcheck (hx : ∀ x ∈ l, x.length ≤ 9223372036854775807) : Ev (fun k => dioramaref16_Check.f k b l) (checkF b l) := by
  unfold dioramaref16_Check.f
  simp only [in_f, Option.bind_some]
  have bad : ∀ (c : Bool), c = true → checkF b l = 1 → Ev (fun k => dioramaref16_Check.j0 k c b l) (checkF b l) := by
    intro c hc h1
    rw [h1, hc]
    exact Ev.step (f := fun _ => some 1) (fun k => by simp [dioramaref16_Check.j0]) (Ev.now _)
  by_cases hb : 2 ≤ b ∧ b ≤ 24
  · have e : (decide (2 ≤ b) && decide (b ≤ 24)) = true := by simp; omega
    rw [e]
    simp only [if_true]
    by_cases hL : 1 ≤ l.length ∧ l.length ≤ 4
    · have e : (decide ((1 : Int) ≤ (l.length : Int)) && decide ((l.length : Int) ≤ 4)) = true := by simp; omega
      rw [e]
      refine Ev.step (f := fun k => dioramaref16_Check.l0 k (([] : List (List Int)).length : Int) b l) (fun k => ?_) (rc_l0 hb hL hx l [] rfl rfl)
      simp only [dioramaref16_Check.j0]
      rfl
    · have e : (decide ((1 : Int) ≤ (l.length : Int)) && decide ((l.length : Int) ≤ 4)) = false := by simp; omega
      rw [e]
      exact bad _ rfl (by unfold checkF; rw [if_pos (by omega)])
  · have e : (decide (2 ≤ b) && decide (b ≤ 24)) = false := by simp; omega
    rw [e]
    simp only [Bool.false_eq_true, if_false]
    exact bad _ rfl (by unfold checkF; rw [if_pos (by omega)])
end
theorem check_ok {b : Int} {l : List (List Int)} (h : checkF b l = 0) : (2 ≤ b ∧ b ≤ 24) ∧ (1 ≤ l.length ∧ l.length ≤ 4) ∧ (∀ x ∈ l, x.length = (l.getD 0 []).length) ∧ (l.getD 0 []).length ≤ 16384 ∧ ∀ x ∈ l, ∀ v ∈ x, -8388608 ≤ v ∧ v ≤ 8388607 := by
  unfold checkF at h
  split at h
  · omega
  · rename_i h1
    split at h
    · omega
    · rename_i h2
      split at h
      · omega
      · rename_i h3
        split at h
        · omega
        · rename_i h4
          refine ⟨by omega, by omega, fun x hx => ?_, by unfold len0 at h3; omega, fun x hx v hv => ?_⟩
          · have := List.any_eq_false.mp (by simpa only [Bool.not_eq_true] using h2) x hx
            simp only [len0, bne_iff_ne, ne_eq, Decidable.not_not] at this
            omega
          · have := List.any_eq_false.mp (by simpa only [Bool.not_eq_true] using h4) x hx
            have := List.any_eq_false.mp (by simpa only [Bool.not_eq_true] using this) v hv
            have ht := top_eq (b := b) (by omega)
            simp only [oor, Bool.or_eq_true, Bool.not_eq_true', decide_eq_false_iff_not, not_or, Int.not_le, Int.not_lt] at this
            omega
section
variable {b : Int} {l : List (List Int)}
/-! Whether sound is long. -/
theorem long_l0 : ∀ (t pre : List (List Int)) (n : Int), pre ++ t = l → l.length ≤ 9223372036854775807 → ∃ r, Ev (fun k => dioramalaw16_long.l0 k n (pre.length : Int) b l) r
  | [], pre, n, hp, _ => by
    obtain rfl : pre = l := by simpa using hp
    by_cases hn : n > 20000
    · exact ⟨true, Ev.step (f := fun _ => some true) (fun k => by simp only [dioramalaw16_long.l0]; rw [if_neg (by omega), if_pos hn]) (Ev.now _)⟩
    · exact ⟨_, Ev.step (f := fun _ => some (decide ((pre.length : Int) > 20))) (fun k => by simp only [dioramalaw16_long.l0]; rw [if_neg (by omega), if_neg hn]) (Ev.now _)⟩
  | x :: t, pre, n, hp, hl => by
    have hlen : pre.length + (t.length + 1) = l.length := by rw [← hp]; simp
    obtain ⟨r, ih⟩ := long_l0 t (pre ++ [x]) (wrap64 (n + (x.length : Int))) (by simpa using hp) hl
    rw [next_i pre x (by omega)] at ih
    refine ⟨r, Ev.step (fun k => ?_) ih⟩
    simp only [dioramalaw16_long.l0]
    rw [if_pos (by omega), if_pos (by omega), rd_row hp]
theorem ev_long (hl : l.length ≤ 9223372036854775807) : ∃ r, Ev (fun k => dioramalaw16_long.f k b l) r := long_l0 l [] 0 rfl hl
end
end Go.Proofs.Ytdiemkeflmflaaa.PureI
