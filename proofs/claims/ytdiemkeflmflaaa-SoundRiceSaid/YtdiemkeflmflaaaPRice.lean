/- A lemma file: what a k costs, and the best k, of both sides. No condition. -/
import Derived.Test.YtdiemkeflmflaaaVPlain
import Derived.Test.YtdiemkeflmflaaaQSoundx16
import Derived.Test.YtdiemkeflmflaaaQSoundx20
namespace Go.Proofs.Ytdiemkeflmflaaa.PureI
open Go.RowKit Go.Proofs.Ytdiemkeflmflaaa.QSound Go.Proofs.YtdiemkeflmflaaaW.PrintWords Go.Proofs.YtdiemkeflmflaaaW.PrintMore Go.Proofs.YtdiemkeflmflaaaV
def foldS (a : Int) : Int := if a < 0 then -2 * a - 1 else 2 * a
def inR (a : Int) : Prop := -2147483648 ≤ a ∧ a ≤ 2147483648
theorem foldS_le {a : Int} (h : inR a) : 0 ≤ foldS a ∧ foldS a ≤ 4294967296 := by
  unfold inR at h; unfold foldS; split <;> omega
theorem fold_p {a : Int} (h : inR a) (k : Nat) : bits_Fold.f (k + 1) a = some (foldS a) := by
  unfold inR at h
  unfold bits_Fold.f foldS
  simp only [bits_Fold.j0]
  rw [if_neg (by omega), if_neg (by simp; omega)]
  by_cases h3 : a < 0
  · rw [if_pos h3, if_pos h3, w64 (x := -2 * a) (by omega) (by omega), w64 (by omega) (by omega)]
  · rw [if_neg h3, if_neg h3, w64 (by omega) (by omega)]
theorem fold_r {a : Int} (h : inR a) (k : Nat) : dioramaref01_Fold.f (k + 1) a = some (foldS a) := by
  rw [← fold_p h k]; rfl
theorem ev_fold_p {a : Int} (h : inR a) : Ev (fun k => bits_Fold.f k a) (foldS a) := Ev.step (f := fun _ => some (foldS a)) (fun k => fold_p h k) (Ev.now _)
theorem ev_fold_r {a : Int} (h : inR a) : Ev (fun k => dioramaref01_Fold.f k a) (foldS a) := Ev.step (f := fun _ => some (foldS a)) (fun k => fold_r h k) (Ev.now _)
def qq (i : Nat) (a : Int) : Int := foldS a / 2 ^ i
theorem qq_le {a : Int} (h : inR a) (i : Nat) : 0 ≤ qq i a ∧ qq i a ≤ 4294967296 := by
  have := foldS_le h
  have hp : (0 : Int) < 2 ^ i := Int.pow_pos (by decide)
  refine ⟨Int.ediv_nonneg this.1 (by omega), ?_⟩
  unfold qq
  exact Int.le_trans (Int.ediv_le_self _ this.1) this.2
theorem shr_qq (i : Nat) (hi : i ≤ 24) (a : Int) : shr .i64 (foldS a) (i : Int) = qq i a := by
  unfold shr qq
  rw [Int.toNat_natCast, Nat.min_eq_left (show i ≤ IntKind.i64.bits from Nat.le_trans hi (by decide))]
def costS (i : Nat) : List Int → Int
  | [] => 0
  | a :: t => qq i a + 1 + (i : Int) + costS i t
def longS (i : Nat) (l : List Int) : Bool := l.any fun a => decide (qq i a > 65535)
theorem costS_le {l : List Int} (i : Nat) (hi : i ≤ 24) (h : ∀ a ∈ l, inR a) : 0 ≤ costS i l ∧ costS i l ≤ 4294967396 * (l.length : Int) := by
  induction l with
  | nil => simp [costS]
  | cons a t ih =>
    have h1 := qq_le (h a (by simp)) i
    have h2 := ih (fun x hx => h x (by simp [hx]))
    simp only [costS, List.length_cons]
    omega
theorem cost_l0 (i : Nat) (hi : i ≤ 24) : ∀ (t pre : List Int) (acc : Int), (pre ++ t).length ≤ 536870912 → (∀ a ∈ t, inR a) → 0 ≤ acc → acc ≤ 4294967396 * (pre.length : Int) →
    Ev (fun k => dioramaref16_cost.l0 k (pre ++ t) (i : Int) acc (pre.length : Int)) (if longS i t = true then (0, false) else (acc + costS i t, true))
  | [], pre, acc, hl, _, h0, h1 => Ev.step (f := fun _ => some (acc + costS i [], true)) (fun k => by simp only [dioramaref16_cost.l0]; rw [if_neg (by simp)]; simp [costS]) (by simpa [longS] using Ev.now _)
  | a :: t, pre, acc, hl, ha, h0, h1 => by
    have hq := qq_le (ha a (by simp)) i
    simp only [List.length_append, List.length_cons] at hl
    have ih := cost_l0 i hi t (pre ++ [a]) (acc + (qq i a + 1 + (i : Int))) (by simp; omega) (fun x hx => ha x (by simp [hx])) (by omega) (by simp; omega)
    have e1 : pre ++ [a] ++ t = pre ++ a :: t := by simp
    have e2 : ((pre ++ [a]).length : Int) = wrap64 ((pre.length : Int) + 1) := by
      simp only [List.length_append, List.length_cons, List.length_nil]
      rw [w64 (by omega) (by omega)]; omega
    rw [e1, e2] at ih
    have e3 : rd (pre ++ a :: t) (pre.length : Int) = a := by simp [rd]
    refine Ev.step (f := fun k => (dioramaref01_Fold.f k a).bind fun v => if shr .i64 v (i : Int) > 65535 then some (0, false) else dioramaref16_cost.l0 k (pre ++ a :: t) (i : Int) (wrap64 (acc + wrap64 (wrap64 (shr .i64 v (i : Int) + 1) + (i : Int)))) (wrap64 ((pre.length : Int) + 1))) (fun k => ?_) ?_
    · simp only [dioramaref16_cost.l0]
      rw [if_pos (by simp; omega), if_pos (by omega), e3]
      simp only [if_pos (show (0 : Int) ≤ (i : Int) by omega)]
    · refine Ev.bind (ev_fold_r (ha a (by simp))) ?_
      simp only [shr_qq i hi]
      by_cases hg : qq i a > 65535
      · simp only [if_pos hg]
        have : longS i (a :: t) = true := by simp [longS, hg]
        rw [if_pos this]; exact Ev.now _
      · simp only [if_neg hg]
        have : longS i (a :: t) = longS i t := by simp [longS, hg]
        rw [this]
        have e4 : wrap64 (acc + wrap64 (wrap64 (qq i a + 1) + (i : Int))) = acc + (qq i a + 1 + (i : Int)) := by
          rw [w64 (x := qq i a + 1) (by omega) (by omega), w64 (x := qq i a + 1 + (i : Int)) (by omega) (by omega), w64 (by omega) (by omega)]
        rw [e4]
        have e5 : acc + costS i (a :: t) = acc + (qq i a + 1 + (i : Int)) + costS i t := by simp only [costS]; omega
        rw [e5]; exact ih
theorem ev_cost {l : List Int} (i : Nat) (hi : i ≤ 24) (hl : l.length ≤ 536870912) (h : ∀ a ∈ l, inR a) : Ev (fun k => dioramaref16_cost.f k l (i : Int)) (if longS i l = true then (0, false) else (costS i l, true)) := by
  have := cost_l0 i hi l [] 0 (by simpa using hl) h (by omega) (by simp)
  simpa [dioramaref16_cost.f] using this
def bestN (l : List Int) : Nat → Option (Int × Int)
  | 0 => none
  | i + 1 => if longS i l = true then bestN l i else match bestN l i with
    | none => some ((i : Int), costS i l)
    | some p => if costS i l < p.2 then some ((i : Int), costS i l) else some p
theorem bestN_ge {l : List Int} (h : ∀ a ∈ l, inR a) : ∀ i, i ≤ 25 → ∀ p, bestN l i = some p → 0 ≤ p.1 ∧ p.1 < (i : Int) ∧ 0 ≤ p.2
  | 0, _, p, hp => by simp [bestN] at hp
  | i + 1, hi, p, hp => by
    have ih := bestN_ge h i (by omega)
    have hc := (costS_le i (by omega) h).1
    unfold bestN at hp
    split at hp
    · have := ih p hp; omega
    · split at hp
      · cases hp; exact ⟨by omega, by omega, hc⟩
      · rename_i q hq
        have := ih q hq
        split at hp <;> cases hp
        · exact ⟨by omega, by omega, hc⟩
        · omega
theorem bestN_some {l : List Int} (h : ∀ a ∈ l, inR a) : ∃ p, bestN l 25 = some p := by
  have hn : longS 24 l = false := by
    unfold longS
    rw [List.any_eq_false]
    intro a ha
    have := foldS_le (h a ha)
    have : qq 24 a ≤ 256 := by unfold qq; omega
    simp; omega
  unfold bestN
  rw [hn]
  simp only [Bool.false_eq_true, if_false]
  split
  · exact ⟨_, rfl⟩
  · split <;> exact ⟨_, rfl⟩
def encR : Option (Int × Int) → Int × Int
  | none => (-1, 0)
  | some p => p
def encP : Option (Int × Int) → Int × Int
  | none => (0, -1)
  | some p => p
theorem best_l0 {l : List Int} (hl : l.length ≤ 536870912) (h : ∀ a ∈ l, inR a) : ∀ (d i : Nat), i + d = 25 → Ev (fun k => dioramaref16_best.l0 k l (encR (bestN l i)).1 (encR (bestN l i)).2 (i : Int)) (encR (bestN l 25))
  | 0, i, hd => by
    obtain rfl : i = 25 := by omega
    exact Ev.step (f := fun _ => some (encR (bestN l 25))) (fun k => by simp only [dioramaref16_best.l0]; rw [if_neg (by omega)]) (Ev.now _)
  | d + 1, i, hd => by
    have ih := best_l0 hl h d (i + 1) (by omega)
    have e2 : ((i + 1 : Nat) : Int) = wrap64 ((i : Int) + 1) := by rw [w64 (by omega) (by omega)]; omega
    rw [e2] at ih
    have hg := bestN_ge h i (by omega)
    refine Ev.step (f := fun k => (dioramaref16_cost.f k l (i : Int)).bind fun c => if c.2 = true then (if (encR (bestN l i)).1 < 0 then dioramaref16_best.l0 k l (i : Int) c.1 (wrap64 ((i : Int) + 1)) else if c.1 < (encR (bestN l i)).2 then dioramaref16_best.l0 k l (i : Int) c.1 (wrap64 ((i : Int) + 1)) else dioramaref16_best.l0 k l (encR (bestN l i)).1 (encR (bestN l i)).2 (wrap64 ((i : Int) + 1))) else dioramaref16_best.l0 k l (encR (bestN l i)).1 (encR (bestN l i)).2 (wrap64 ((i : Int) + 1))) (fun k => ?_) ?_
    · simp only [dioramaref16_best.l0]
      rw [if_pos (by omega)]
    · refine Ev.bind (ev_cost i (by omega) hl h) ?_
      by_cases hL : longS i l = true
      · simp only [if_pos hL, Bool.false_eq_true, if_false]
        have e : bestN l (i + 1) = bestN l i := by rw [bestN, if_pos hL]
        rw [e] at ih
        exact ih
      · simp only [if_neg hL, if_true]
        cases hb : bestN l i with
        | none =>
          have e : bestN l (i + 1) = some ((i : Int), costS i l) := by rw [bestN, if_neg hL, hb]
          rw [e] at ih
          simp only [encR] at ih ⊢
          exact ih
        | some p =>
          obtain ⟨h1, h2, h3⟩ := hg p hb
          have e1 : encR (some p) = p := rfl
          rw [e1]
          simp only [if_neg (show ¬ p.1 < 0 by omega)]
          by_cases hc : costS i l < p.2
          · have e : bestN l (i + 1) = some ((i : Int), costS i l) := by rw [bestN, if_neg hL, hb]; simp only [if_pos hc]
            rw [e] at ih
            simp only [if_pos hc]
            exact ih
          · have e : bestN l (i + 1) = some p := by rw [bestN, if_neg hL, hb]; simp only [if_neg hc]
            rw [e] at ih
            simp only [if_neg hc]
            exact ih
theorem rice_l1 {l : List Int} (hl : l.length ≤ 536870912) (i : Nat) (hi : i ≤ 24) (x2 x3 : Int) {r : Int × Int × Int} : ∀ (t pre : List Int) (acc : Int) (lg : Bool), pre ++ t = l → (∀ a ∈ t, inR a) → 0 ≤ acc → acc ≤ 4294967396 * (pre.length : Int) →
    Ev (fun k => if (lg || longS i t) = true then sound_Rice.l0 k l x2 x3 (wrap64 ((i : Int) + 1)) else if x3 < 0 then sound_Rice.l0 k l (i : Int) (acc + costS i t) (wrap64 ((i : Int) + 1)) else if acc + costS i t < x3 then sound_Rice.l0 k l (i : Int) (acc + costS i t) (wrap64 ((i : Int) + 1)) else sound_Rice.l0 k l x2 x3 (wrap64 ((i : Int) + 1))) r →
    Ev (fun k => sound_Rice.l1 k l x2 x3 (i : Int) acc lg (i : Int) l (l.length : Int) (pre.length : Int)) r
  | [], pre, acc, lg, hp, _, _, _, h => by
    refine Ev.step (fun k => ?_) h
    have : pre = l := by simpa using hp
    simp only [sound_Rice.l1]
    rw [this, if_neg (by omega)]
    simp [longS, costS]
  | a :: t, pre, acc, lg, hp, ha, h0, h1, h => by
    have hq := qq_le (ha a (by simp)) i
    have hl2 : pre.length + (t.length + 1) = l.length := by rw [← hp]; simp
    have e2 : ((pre ++ [a]).length : Int) = wrap64 ((pre.length : Int) + 1) := by
      simp only [List.length_append, List.length_cons, List.length_nil]
      rw [w64 (by omega) (by omega)]; omega
    have e3 : rd l (pre.length : Int) = a := by rw [← hp]; simp [rd]
    have e4 : wrap64 (acc + wrap64 (wrap64 (qq i a + 1) + (i : Int))) = acc + (qq i a + 1 + (i : Int)) := by
      rw [w64 (x := qq i a + 1) (by omega) (by omega), w64 (x := qq i a + 1 + (i : Int)) (by omega) (by omega), w64 (by omega) (by omega)]
    have e5 : acc + costS i (a :: t) = acc + (qq i a + 1 + (i : Int)) + costS i t := by simp only [costS]; omega
    have ih := rice_l1 hl i hi x2 x3 (r := r) t (pre ++ [a]) (acc + (qq i a + 1 + (i : Int))) (lg || decide (qq i a > 65535)) (by simpa using hp) (fun x hx => ha x (by simp [hx])) (by omega) (by simp; omega) (by
      rw [e5] at h
      have e6 : (lg || longS i (a :: t)) = (lg || decide (qq i a > 65535) || longS i t) := by simp [longS, Bool.or_assoc]
      rw [e6] at h
      exact h)
    rw [e2] at ih
    refine Ev.step (f := fun k => (bits_Fold.f k a).bind fun v => if lg = true then sound_Rice.l1 k l x2 x3 (i : Int) (wrap64 (acc + wrap64 (wrap64 (shr .i64 v (i : Int) + 1) + (i : Int)))) true (i : Int) l (l.length : Int) (wrap64 ((pre.length : Int) + 1)) else sound_Rice.l1 k l x2 x3 (i : Int) (wrap64 (acc + wrap64 (wrap64 (shr .i64 v (i : Int) + 1) + (i : Int)))) (decide (shr .i64 v (i : Int) > 65535)) (i : Int) l (l.length : Int) (wrap64 ((pre.length : Int) + 1))) (fun k => ?_) ?_
    · simp only [sound_Rice.l1]
      rw [if_pos (by omega), if_pos (by omega), if_pos (by omega), e3]
      simp only [if_pos (show (0 : Int) ≤ (i : Int) by omega)]
    · refine Ev.bind (ev_fold_p (ha a (by simp))) ?_
      simp only [shr_qq i hi, e4]
      cases lg with
      | true => simpa using ih
      | false => simpa using ih
theorem rice_l0 {l : List Int} (hl : l.length ≤ 536870912) (h : ∀ a ∈ l, inR a) : ∀ (d i : Nat), i + d = 25 → Ev (fun k => sound_Rice.l0 k l (encP (bestN l i)).1 (encP (bestN l i)).2 (i : Int)) ((encP (bestN l 25)).1, (encP (bestN l 25)).2, 0)
  | 0, i, hd => by
    obtain rfl : i = 25 := by omega
    exact Ev.step (f := fun _ => some ((encP (bestN l 25)).1, (encP (bestN l 25)).2, 0)) (fun k => by simp only [sound_Rice.l0]; rw [if_neg (by omega)]) (Ev.now _)
  | d + 1, i, hd => by
    have ih := rice_l0 hl h d (i + 1) (by omega)
    have e2 : ((i + 1 : Nat) : Int) = wrap64 ((i : Int) + 1) := by rw [w64 (by omega) (by omega)]; omega
    rw [e2] at ih
    have hg := bestN_ge h i (by omega)
    refine Ev.step (f := fun k => sound_Rice.l1 k l (encP (bestN l i)).1 (encP (bestN l i)).2 (i : Int) 0 false (i : Int) l (l.length : Int) 0) (fun k => ?_) ?_
    · simp only [sound_Rice.l0]
      rw [if_pos (by omega)]
    · refine rice_l1 hl i (by omega) _ _ l [] 0 false rfl h (by omega) (by simp) ?_
      simp only [Bool.false_or, Int.zero_add]
      by_cases hL : longS i l = true
      · simp only [if_pos hL]
        have e : bestN l (i + 1) = bestN l i := by rw [bestN, if_pos hL]
        rw [e] at ih
        exact ih
      · simp only [if_neg hL]
        cases hb : bestN l i with
        | none =>
          have e : bestN l (i + 1) = some ((i : Int), costS i l) := by rw [bestN, if_neg hL, hb]
          rw [e] at ih
          simp only [encP] at ih ⊢
          exact ih
        | some p =>
          obtain ⟨h1, h2, h3⟩ := hg p hb
          have e1 : encP (some p) = p := rfl
          rw [e1]
          simp only [if_neg (show ¬ p.2 < 0 by omega)]
          by_cases hc : costS i l < p.2
          · have e : bestN l (i + 1) = some ((i : Int), costS i l) := by rw [bestN, if_neg hL, hb]; simp only [if_pos hc]
            rw [e] at ih
            simp only [if_pos hc]
            exact ih
          · have e : bestN l (i + 1) = some p := by rw [bestN, if_neg hL, hb]; simp only [if_neg hc]
            rw [e] at ih
            simp only [if_neg hc]
            exact ih
/-- The best k, and how many bits, where all numbers are in range. -/
def riceB (l : List Int) : Int × Int := (bestN l 25).getD (0, 0)
theorem ev_best {l : List Int} (hl : l.length ≤ 536870912) (h : ∀ a ∈ l, inR a) : Ev (fun k => dioramaref16_best.f k l) (riceB l) := by
  obtain ⟨p, hp⟩ := bestN_some h
  have := best_l0 hl h 25 0 rfl
  unfold riceB
  rw [hp] at this ⊢
  exact this
def riceS (l : List Int) : Int × Int × Int := if l.any (out 2147483648) = true then (0, 0, 1) else ((riceB l).1, (riceB l).2, 0)
theorem inR_of {l : List Int} (h : ¬ l.any (out 2147483648) = true) : ∀ a ∈ l, inR a := by
  intro a ha
  have := List.any_eq_false.mp (by simpa using h) a ha
  simp [out] at this
  unfold inR; omega
theorem ev_rice_p {l : List Int} (hl : l.length ≤ 536870912) : Ev (fun k => sound_Rice.f k l) (riceS l) := by
  unfold sound_Rice.f sound_beyond.f riceS
  rw [if_pos (by omega), if_pos (by omega)]
  simp only [Option.bind_some]
  by_cases hb : l.any (out 2147483648) = true
  · simp only [if_pos hb]; exact Ev.now _
  · simp only [if_neg hb]
    have h := inR_of hb
    obtain ⟨p, hp⟩ := bestN_some h
    have := rice_l0 hl h 25 0 rfl
    unfold riceB
    rw [hp] at this ⊢
    exact this
theorem rrice_l0 {l : List Int} (hl : l.length ≤ 536870912) : ∀ (t pre : List Int), pre ++ t = l → (∀ a ∈ pre, inR a) → Ev (fun k => dioramaref16_Rice.l0 k l (pre.length : Int)) (riceS l)
  | [], pre, hp, h => by
    obtain rfl : pre = l := by simpa using hp
    refine Ev.step (f := fun k => (dioramaref16_best.f k pre).bind fun b => some (b.1, b.2, 0)) (fun k => ?_) ?_
    · simp only [dioramaref16_Rice.l0]
      rw [if_neg (by omega)]
    · refine Ev.bind (ev_best hl h) ?_
      have hn : ¬ pre.any (out 2147483648) = true := by
        simp only [Bool.not_eq_true, List.any_eq_false]
        intro a ha
        have := h a ha
        unfold inR at this
        simp [out]; omega
      unfold riceS
      rw [if_neg hn]
      exact Ev.now _
  | a :: t, pre, hp, h => by
    have hl2 : pre.length + (t.length + 1) = l.length := by rw [← hp]; simp
    have e2 : ((pre ++ [a]).length : Int) = wrap64 ((pre.length : Int) + 1) := by
      simp only [List.length_append, List.length_cons, List.length_nil]
      rw [w64 (by omega) (by omega)]; omega
    have e3 : rd l (pre.length : Int) = a := by rw [← hp]; simp [rd]
    by_cases ha : inR a
    · have ih := rrice_l0 hl t (pre ++ [a]) (by simpa using hp) (fun x hx => by
        rcases List.mem_append.mp hx with hx | hx
        · exact h x hx
        · obtain rfl : x = a := by simpa using hx
          exact ha)
      rw [e2] at ih
      refine Ev.step (fun k => ?_) ih
      simp only [dioramaref16_Rice.l0]
      rw [if_pos (by omega), if_pos (by omega), e3]
      unfold inR at ha
      simp [dioramaref16_in.f, ha]
    · have hb : l.any (out 2147483648) = true := by
        rw [← hp]
        unfold inR at ha
        have : out 2147483648 a = true := by simp [out]; omega
        simp [this]
      unfold riceS
      rw [if_pos hb]
      refine Ev.step (f := fun _ => some (0, 0, 1)) (fun k => ?_) (Ev.now _)
      simp only [dioramaref16_Rice.l0]
      rw [if_pos (by omega), if_pos (by omega), e3]
      have : (dioramaref16_in.f a (-2147483648) 2147483648) = some false := by
        unfold inR at ha
        unfold dioramaref16_in.f
        by_cases h1 : a ≥ -2147483648
        · rw [if_pos h1]; simp; omega
        · rw [if_neg h1]
      rw [this]; rfl
theorem ev_rice_r {l : List Int} (hl : l.length ≤ 536870912) : Ev (fun k => dioramaref16_Rice.f k l) (riceS l) := rrice_l0 hl l [] rfl (by simp)
end Go.Proofs.Ytdiemkeflmflaaa.PureI
