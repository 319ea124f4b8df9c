/- A lemma file: pieces of sound, sound behind sound, and sounds held against each other, of both sides. No condition. -/
import Derived.Test.YtdiemkeflmflaaaPChk
import Derived.Test.YtdiemkeflmflaaaPEqi
import Derived.Test.YtdiemkeflmflaaaQSoundx7
import Derived.Test.YtdiemkeflmflaaaQSoundx10
import Derived.Test.YtdiemkeflmflaaaQSoundx11
import Derived.Test.YtdiemkeflmflaaaQSoundx12
import Derived.Test.YtdiemkeflmflaaaQSoundx14
import Derived.Test.YtdiemkeflmflaaaQSoundx15
namespace Go.Proofs.Ytdiemkeflmflaaa.PureI
open Go.RowKit Go.Proofs.Ytdiemkeflmflaaa.QSound Go.Proofs.YtdiemkeflmflaaaW.PrintWords Go.Proofs.YtdiemkeflmflaaaW.PrintMore Go.Proofs.YtdiemkeflmflaaaV
def small (l : List (List Int)) : Prop := ∀ x ∈ l, x.length ≤ 9223372036854775807
/-! Rows held against rows. -/
theorem eqr_l0 : ∀ (t u pre pre' : List (List Int)), pre.length = pre'.length → (pre ++ t).length ≤ 9223372036854775807 → t.length = u.length → small t → Ev (fun k => dioramaref00_EqRows.l0 k (pre ++ t) (pre' ++ u) (pre.length : Int)) (decide (t = u))
  | [], [], pre, pre', _, _, _, _ => Ev.step (f := fun _ => some (decide (([] : List (List Int)) = []))) (fun k => by simp only [dioramaref00_EqRows.l0]; rw [if_neg (by simp)]; rfl) (Ev.now _)
  | a :: t, b :: u, pre, pre', h, hl, hu, hs => by
    have hl2 := hl
    simp only [List.length_append, List.length_cons] at hl2 hu
    have ih := eqr_l0 t u (pre ++ [a]) (pre' ++ [b]) (by simp [h]) (by simpa using hl) (by omega) (fun x hx => hs x (by simp [hx]))
    have e1 : pre ++ [a] ++ t = pre ++ a :: t := by simp
    have e1' : pre' ++ [b] ++ u = pre' ++ b :: u := by simp
    rw [e1, e1', next_i pre a (by omega)] at ih
    have ea : rd_L1 (pre ++ a :: t) (pre.length : Int) = a := rd_row rfl
    have eb : rd_L1 (pre' ++ b :: u) (pre.length : Int) = b := by rw [h]; exact rd_row rfl
    refine Ev.step (f := fun k => (dioramaref00_EqInts.f k a b).bind fun q => if q = true then dioramaref00_EqRows.l0 k (pre ++ a :: t) (pre' ++ b :: u) (wrap64 ((pre.length : Int) + 1)) else some false) (fun k => ?_) ?_
    · simp only [dioramaref00_EqRows.l0]
      rw [if_pos (by simp; omega), if_pos (by omega), if_pos (by simp; omega), ea, eb]
    · refine Ev.bind (eqi_ev (hs a (by simp))) ?_
      by_cases e : a = b
      · subst e
        simpa using ih
      · have : decide (a :: t = b :: u) = false := decide_eq_false (fun q => e (by injection q))
        rw [this]
        simp [e]
        exact Ev.now _
  | [], _ :: _, _, _, _, _, h, _ => by simp at h
  | _ :: _, [], _, _, _, _, h, _ => by simp at h
theorem ev_eqrows {l u : List (List Int)} (hl : l.length ≤ 9223372036854775807) (hs : small l) : Ev (fun k => dioramaref00_EqRows.f k l u) (decide (l = u)) := by
  unfold dioramaref00_EqRows.f
  by_cases h : l.length = u.length
  · simp only [if_pos (show (l.length : Int) = (u.length : Int) by omega)]
    exact eqr_l0 l u [] [] rfl (by simpa using hl) h hs
  · simp only [if_neg (show ¬ (l.length : Int) = (u.length : Int) by omega)]
    have : decide (l = u) = false := decide_eq_false (fun e => h (by rw [e]))
    rw [this]
    exact Ev.now _
theorem ev_eqwave {b b' : Int} {l u : List (List Int)} (hl : l.length ≤ 9223372036854775807) (hs : small l) : Ev (fun k => dioramaref00_EqWave.f k b l b' u) (decide (b = b') && decide (l = u)) := by
  unfold dioramaref00_EqWave.f
  by_cases h : b = b'
  · simp only [if_pos h, decide_eq_true h, Bool.true_and]
    exact Ev.congr (fun k => Option.bind_fun_some _) (ev_eqrows hl hs)
  · simp only [if_neg h, decide_eq_false h, Bool.false_and]
    exact Ev.now _
theorem equ_l0 {u l : List Int} : ∀ (t v pre pre' : List Int), pre ++ t = l → pre' ++ v = u → pre.length = pre'.length → l.length ≤ 9223372036854775807 → t.length = v.length → Ev (fun k => slices_Equal_int_int.l0 k l u (l.length : Int) (pre.length : Int)) (decide (t = v))
  | [], [], pre, pre', hp, _, _, _, _ => by
    obtain rfl : pre = l := by simpa using hp
    exact Ev.step (f := fun _ => some (decide (([] : List Int) = []))) (fun k => by simp only [slices_Equal_int_int.l0]; rw [if_neg (by omega)]; rfl) (Ev.now _)
  | a :: t, c :: v, pre, pre', hp, hp', h, hl, hu => by
    simp only [List.length_cons] at hu
    have hlen : pre.length + (t.length + 1) = l.length := by rw [← hp]; simp
    have hlen' : pre'.length + (v.length + 1) = u.length := by rw [← hp']; simp
    have ea : rd l (pre.length : Int) = a := rd_at hp
    have ec : rd u (pre.length : Int) = c := by rw [h]; exact rd_at hp'
    by_cases e : a = c
    · subst e
      have ih := equ_l0 t v (pre ++ [a]) (pre' ++ [a]) (by simpa using hp) (by simpa using hp') (by simp [h]) hl (by omega)
      rw [show ((pre ++ [a]).length : Int) = wrap64 ((pre.length : Int) + 1) by
        simp only [List.length_append, List.length_cons, List.length_nil]
        rw [w64 (by omega) (by omega)]; omega] at ih
      have e3 : decide (t = v) = decide (a :: t = a :: v) := by simp
      rw [e3] at ih
      refine Ev.step (fun k => ?_) ih
      simp only [slices_Equal_int_int.l0]
      rw [if_pos (by omega), if_pos (by omega), if_pos (by omega), if_pos (by omega), ea, ec, if_pos rfl]
    · refine Ev.step (f := fun _ => some (decide (a :: t = c :: v))) (fun k => ?_) (Ev.now _)
      simp only [slices_Equal_int_int.l0]
      rw [if_pos (by omega), if_pos (by omega), if_pos (by omega), if_pos (by omega), ea, ec, if_neg e]
      simp [e]
  | [], _ :: _, _, _, _, _, _, _, h => by simp at h
  | _ :: _, [], _, _, _, _, _, _, h => by simp at h
theorem ev_equal {l u : List Int} (hl : l.length ≤ 9223372036854775807) : Ev (fun k => slices_Equal_int_int.f k l u) (decide (l = u)) := by
  unfold slices_Equal_int_int.f
  by_cases h : l.length = u.length
  · simp only [if_pos (show (l.length : Int) = (u.length : Int) by omega)]
    exact equ_l0 (l := l) (u := u) l u [] [] rfl rfl rfl hl h
  · simp only [if_neg (show ¬ (l.length : Int) = (u.length : Int) by omega)]
    have : decide (l = u) = false := decide_eq_false (fun e => h (by rw [e]))
    rw [this]
    exact Ev.now _
theorem same_l0 {u l : List (List Int)} (hs : small l) : ∀ (t v pre pre' : List (List Int)), pre ++ t = l → pre' ++ v = u → pre.length = pre'.length → l.length ≤ 9223372036854775807 → t.length = v.length → Ev (fun k => slices_EqualFunc_int_int_int_int__93.l0 k u l (l.length : Int) (pre.length : Int)) (decide (t = v))
  | [], [], pre, pre', hp, _, _, _, _ => by
    obtain rfl : pre = l := by simpa using hp
    exact Ev.step (f := fun _ => some (decide (([] : List (List Int)) = []))) (fun k => by simp only [slices_EqualFunc_int_int_int_int__93.l0]; rw [if_neg (by omega)]; rfl) (Ev.now _)
  | a :: t, c :: v, pre, pre', hp, hp', h, hl, hu => by
    simp only [List.length_cons] at hu
    have hlen : pre.length + (t.length + 1) = l.length := by rw [← hp]; simp
    have hlen' : pre'.length + (v.length + 1) = u.length := by rw [← hp']; simp
    have ea : rd_L1 l (pre.length : Int) = a := rd_row hp
    have ec : rd_L1 u (pre.length : Int) = c := by rw [h]; exact rd_row hp'
    have ih := same_l0 hs t v (pre ++ [a]) (pre' ++ [c]) (by simpa using hp) (by simpa using hp') (by simp [h]) hl (by omega)
    rw [next_i pre a (by omega)] at ih
    refine Ev.step (f := fun k => (slices_Equal_int_int.f k a c).bind fun q => if q = true then slices_EqualFunc_int_int_int_int__93.l0 k u l (l.length : Int) (wrap64 ((pre.length : Int) + 1)) else some false) (fun k => ?_) ?_
    · simp only [slices_EqualFunc_int_int_int_int__93.l0]
      rw [if_pos (by omega), if_pos (by omega), if_pos (by omega), if_pos (by omega), ea, ec]
    · refine Ev.bind (ev_equal (hs a (by rw [← hp]; simp))) ?_
      by_cases e : a = c
      · subst e
        simpa using ih
      · have : decide (a :: t = c :: v) = false := decide_eq_false (fun q => e (by injection q))
        rw [this]
        simp [e]
        exact Ev.now _
  | [], _ :: _, _, _, _, _, _, _, h => by simp at h
  | _ :: _, [], _, _, _, _, _, _, h => by simp at h
theorem ev_same {b b' : Int} {l u : List (List Int)} (hl : l.length ≤ 9223372036854775807) (hs : small l) : Ev (fun k => sound_Same.f k b l b' u) (decide (b = b') && decide (l = u)) := by
  unfold sound_Same.f
  by_cases h : b = b'
  · simp only [if_pos h, decide_eq_true h, Bool.true_and]
    refine Ev.congr (fun k => Option.bind_fun_some _) ?_
    unfold slices_EqualFunc_int_int_int_int__93.f
    by_cases h : l.length = u.length
    · simp only [if_pos (show (l.length : Int) = (u.length : Int) by omega)]
      exact same_l0 (l := l) (u := u) hs l u [] [] rfl rfl rfl hl h
    · simp only [if_neg (show ¬ (l.length : Int) = (u.length : Int) by omega)]
      have : decide (l = u) = false := decide_eq_false (fun e => h (by rw [e]))
      rw [this]
      exact Ev.now _
  · simp only [if_neg h, decide_eq_false h, Bool.false_and]
    exact Ev.now _
/-! Pieces. -/
def piece (p q : Int) (c : List Int) : List Int := (c.take q.toNat).drop p.toNat
def cutF (b : Int) (l : List (List Int)) (p q : Int) : Int × List (List Int) × Int :=
  if checkF b l = 0 then (if p < 0 ∨ q < p ∨ len0 l < q then (0, [], 1) else (b, l.map (piece p q), 0)) else (0, [], checkF b l)
section
variable {b : Int} {l : List (List Int)} {p q : Int}
theorem cut_l0 (hp : 0 ≤ p) (hq : p ≤ q) (hL : l.length ≤ 4) (hx : ∀ x ∈ l, q ≤ (x.length : Int) ∧ x.length ≤ 16384) : ∀ (t pre acc : List (List Int)), pre ++ t = l → acc.length + t.length ≤ 4 →
    Ev (fun k => sound_cut.l0 k p q l (l.length : Int) (pre.length : Int) b acc) (b, acc ++ t.map (piece p q))
  | [], pre, acc, hpre, _ => by
    obtain rfl : pre = l := by simpa using hpre
    exact Ev.step (f := fun _ => some (b, acc ++ [])) (fun k => by simp only [sound_cut.l0]; rw [if_neg (by omega)]; simp) (by simpa using Ev.now _)
  | x :: t, pre, acc, hpre, ha => by
    have hlen : pre.length + (t.length + 1) = l.length := by rw [← hpre]; simp
    obtain ⟨h1, h2⟩ := hx x (by rw [← hpre]; simp)
    simp only [List.length_cons] at ha
    have ih := cut_l0 hp hq hL hx t (pre ++ [x]) (acc ++ [piece p q x]) (by simpa using hpre) (by simp; omega)
    rw [next_i pre x (by omega), List.append_assoc] at ih
    refine Ev.step (fun k => ?_) ih
    simp only [sound_cut.l0]
    rw [if_pos (by omega), if_pos (by omega), if_pos (by omega), if_pos hp, if_pos hq, rd_row hpre, if_pos (by omega)]
    unfold slices_Clone_int_int.f
    rw [if_pos (by simp; omega)]
    simp only [Option.bind_some]
    rw [if_pos (by omega)]
    rfl
theorem rcut_l0 (hp : 0 ≤ p) (hq : p ≤ q) (hL : l.length ≤ 4) (hx : ∀ x ∈ l, q ≤ (x.length : Int) ∧ x.length ≤ 16384) : ∀ (t pre acc : List (List Int)), pre ++ t = l → acc.length + t.length ≤ 4 →
    Ev (fun k => dioramaref16_cut.l0 k p q (pre.length : Int) b l b acc) (b, acc ++ t.map (piece p q))
  | [], pre, acc, hpre, _ => by
    obtain rfl : pre = l := by simpa using hpre
    exact Ev.step (f := fun _ => some (b, acc ++ [])) (fun k => by simp only [dioramaref16_cut.l0]; rw [if_neg (by omega)]; simp) (by simpa using Ev.now _)
  | x :: t, pre, acc, hpre, ha => by
    have hlen : pre.length + (t.length + 1) = l.length := by rw [← hpre]; simp
    obtain ⟨h1, h2⟩ := hx x (by rw [← hpre]; simp)
    simp only [List.length_cons] at ha
    have ih := rcut_l0 hp hq hL hx t (pre ++ [x]) (acc ++ [piece p q x]) (by simpa using hpre) (by simp; omega)
    rw [next_i pre x (by omega), List.append_assoc] at ih
    refine Ev.step (fun k => ?_) ih
    simp only [dioramaref16_cut.l0]
    rw [if_pos (by omega), if_pos (by omega), if_pos hp, if_pos hq, rd_row hpre, if_pos (by omega)]
    simp only [Option.bind_some]
    rw [if_pos (by simp; omega), if_pos (by omega)]
    rfl
theorem ev_cut : Ev (fun k => sound_Cut.f k b l p q) (cutF b l p q) := by
  unfold sound_Cut.f sound_Check.f cutF
  simp only [Option.bind_some]
  by_cases h : checkF b l = 0
  · obtain ⟨hb, hL, hx, hn, hv⟩ := check_ok h
    simp only [if_pos h, length_f b (show 0 < l.length by omega), Option.bind_some]
    by_cases h1 : p < 0
    · simp only [if_pos h1, if_pos (show p < 0 ∨ q < p ∨ len0 l < q by omega)]; exact Ev.now _
    · by_cases h2 : q < p
      · simp only [if_neg h1, if_pos h2, if_pos (show p < 0 ∨ q < p ∨ len0 l < q by omega)]; exact Ev.now _
      · by_cases h3 : q > len0 l
        · simp only [if_neg h1, if_neg h2, if_pos h3, if_pos (show p < 0 ∨ q < p ∨ len0 l < q by omega)]; exact Ev.now _
        · simp only [if_neg h1, if_neg h2, if_neg h3, if_neg (show ¬ (p < 0 ∨ q < p ∨ len0 l < q) by omega)]
          refine Ev.bind (cut_l0 (b := b) (by omega) (by omega) hL.2 (fun x hxm => ?_) l [] [] rfl (by simp; omega)) (by simpa using Ev.now _)
          have := hx x hxm
          unfold len0 at h3
          omega
  · simp only [if_neg h]; exact Ev.now _
theorem ev_rcut (hxx : small l) : Ev (fun k => dioramaref16_Cut.f k b l p q) (cutF b l p q) := by
  unfold dioramaref16_Cut.f cutF
  refine Ev.bind (ev_rcheck hxx) ?_
  by_cases h : checkF b l = 0
  · obtain ⟨hb, hL, hx, hn, hv⟩ := check_ok h
    simp only [if_pos h, if_pos (show (0 : Int) < (l.length : Int) by omega), show ((rd_L1 l 0).length : Int) = len0 l from rfl]
    by_cases h1 : p < 0
    · simp only [if_pos h1, if_pos (show p < 0 ∨ q < p ∨ len0 l < q by omega)]; exact Ev.now _
    · by_cases h2 : q < p
      · simp only [if_neg h1, if_pos h2, if_pos (show p < 0 ∨ q < p ∨ len0 l < q by omega)]; exact Ev.now _
      · by_cases h3 : q > len0 l
        · simp only [if_neg h1, if_neg h2, if_pos h3, if_pos (show p < 0 ∨ q < p ∨ len0 l < q by omega)]; exact Ev.now _
        · simp only [if_neg h1, if_neg h2, if_neg h3, if_neg (show ¬ (p < 0 ∨ q < p ∨ len0 l < q) by omega)]
          refine Ev.bind (rcut_l0 (b := b) (by omega) (by omega) hL.2 (fun x hxm => ?_) l [] [] rfl (by simp; omega)) (by simpa using Ev.now _)
          have := hx x hxm
          unfold len0 at h3
          omega
  · simp only [if_neg h]; exact Ev.now _
end
/-! Sound behind sound. -/
def joinF (b : Int) (l : List (List Int)) (b' : Int) (l' : List (List Int)) : Int × List (List Int) × Int :=
  if checkF b l = 0 then (if checkF b' l' = 0 then (if b = b' ∧ l.length = l'.length then (if 16384 < len0 l + len0 l' then (0, [], 2) else (b, l.zipWith (· ++ ·) l', 0)) else (0, [], 4)) else (0, [], checkF b' l')) else (0, [], checkF b l)
section
variable {b b' : Int} {l l' : List (List Int)}
theorem join_l1 (hL : l.length ≤ 4) (hx : ∀ x ∈ l, x.length ≤ 16384) (hx' : ∀ x ∈ l', x.length ≤ 16384) : ∀ (t u pre pre' acc : List (List Int)), pre ++ t = l → pre' ++ u = l' → pre.length = pre'.length → t.length = u.length → acc.length + t.length ≤ 4 →
    Ev (fun k => sound_Join.l1 k (l.length : Int) (pre.length : Int) b l b' l' b acc) (b, acc ++ t.zipWith (· ++ ·) u, 0)
  | [], [], pre, pre', acc, hp, _, _, _, _ => by
    obtain rfl : pre = l := by simpa using hp
    exact Ev.step (f := fun _ => some (b, acc ++ [], 0)) (fun k => by simp only [sound_Join.l1]; rw [if_neg (by omega)]; simp) (by simpa using Ev.now _)
  | x :: t, y :: u, pre, pre', acc, hp, hp', h, hu, ha => by
    simp only [List.length_cons] at hu ha
    have hlen : pre.length + (t.length + 1) = l.length := by rw [← hp]; simp
    have hlen' : pre'.length + (u.length + 1) = l'.length := by rw [← hp']; simp
    have h1 := hx x (by rw [← hp]; simp)
    have h2 := hx' y (by rw [← hp']; simp)
    have ih := join_l1 hL hx hx' t u (pre ++ [x]) (pre' ++ [y]) (acc ++ [x ++ y]) (by simpa using hp) (by simpa using hp') (by simp [h]) (by omega) (by simp; omega)
    rw [next_i pre x (by omega), List.append_assoc] at ih
    refine Ev.step (fun k => ?_) ih
    simp only [sound_Join.l1]
    rw [if_pos (by omega), if_pos (by omega), if_pos (by omega), if_pos (by omega), rd_row hp, show rd_L1 l' (pre.length : Int) = y by rw [h]; exact rd_row hp']
    unfold slices_Concat_int_int.f
    rw [if_pos (by simp; omega)]
    simp only [Option.bind_some]
    rw [if_pos (by omega)]
    simp
  | [], _ :: _, _, _, _, _, _, _, h, _ => by simp at h
  | _ :: _, [], _, _, _, _, _, _, h, _ => by simp at h
theorem rjoin_l0 (hL : l.length ≤ 4) (hx : ∀ x ∈ l, x.length ≤ 16384) (hx' : ∀ x ∈ l', x.length ≤ 16384) : ∀ (t u pre pre' acc : List (List Int)), pre ++ t = l → pre' ++ u = l' → pre.length = pre'.length → t.length = u.length → acc.length + t.length ≤ 4 →
    Ev (fun k => dioramaref16_Join.l0 k (pre.length : Int) b l b' l' b acc) (b, acc ++ t.zipWith (· ++ ·) u, 0)
  | [], [], pre, pre', acc, hp, _, _, _, _ => by
    obtain rfl : pre = l := by simpa using hp
    exact Ev.step (f := fun _ => some (b, acc ++ [], 0)) (fun k => by simp only [dioramaref16_Join.l0]; rw [if_neg (by omega)]; simp) (by simpa using Ev.now _)
  | x :: t, y :: u, pre, pre', acc, hp, hp', h, hu, ha => by
    simp only [List.length_cons] at hu ha
    have hlen : pre.length + (t.length + 1) = l.length := by rw [← hp]; simp
    have hlen' : pre'.length + (u.length + 1) = l'.length := by rw [← hp']; simp
    have h1 := hx x (by rw [← hp]; simp)
    have h2 := hx' y (by rw [← hp']; simp)
    have ih := rjoin_l0 hL hx hx' t u (pre ++ [x]) (pre' ++ [y]) (acc ++ [x ++ y]) (by simpa using hp) (by simpa using hp') (by simp [h]) (by omega) (by simp; omega)
    rw [next_i pre x (by omega), List.append_assoc] at ih
    refine Ev.step (fun k => ?_) ih
    simp only [dioramaref16_Join.l0]
    rw [if_pos (by omega), if_pos (by omega), rd_row hp, if_pos (by simp; omega)]
    simp only [Option.bind_some]
    rw [if_pos (by omega), show rd_L1 l' (pre.length : Int) = y by rw [h]; exact rd_row hp', if_pos (by simp; omega), if_pos (by omega)]
    simp
  | [], _ :: _, _, _, _, _, _, _, h, _ => by simp at h
  | _ :: _, [], _, _, _, _, _, _, h, _ => by simp at h
theorem check_eq (b : Int) (l : List (List Int)) : sound_Check.f b l = some (checkF b l) := rfl
def two (b : Int) (l : List (List Int)) (b' : Int) (l' : List (List Int)) : List S46 := [⟨b, l⟩, ⟨b', l'⟩]
theorem two_0 : rd_T46 (two b l b' l') 0 = ⟨b, l⟩ := rfl
theorem two_1 : rd_T46 (two b l b' l') 1 = ⟨b', l'⟩ := rfl
theorem two_len : ((two b l b' l').length : Int) = 2 := rfl
theorem w_01 : wrap64 (0 + 1) = 1 := by unfold wrap64; omega
theorem w_11 : wrap64 (1 + 1) = 2 := by unfold wrap64; omega
def joinE (b : Int) (l : List (List Int)) (b' : Int) (l' : List (List Int)) : Int × List (List Int) × Int :=
  if b = b' ∧ l.length = l'.length then (if 16384 < len0 l + len0 l' then (0, [], 2) else (b, l.zipWith (· ++ ·) l', 0)) else (0, [], 4)
theorem join_2 (h : checkF b l = 0) (h' : checkF b' l' = 0) : Ev (fun k => sound_Join.l0 k (two b l b' l') 2 2 b l b' l') (joinE b l b' l') := by
  obtain ⟨hb, hL, hx, hn, hv⟩ := check_ok h
  obtain ⟨hb', hL', hx', hn', hv'⟩ := check_ok h'
  unfold joinE
  by_cases hc : b = b' ∧ l.length = l'.length
  · rw [if_pos hc]
    have ha : sound_alike.f b l b' l' = some true := by
      unfold sound_alike.f
      rw [if_pos hc.1]
      simp [hc.2]
    have hw : wrap64 (len0 l + len0 l') = len0 l + len0 l' := by unfold len0 wrap64; omega
    by_cases h16 : 16384 < len0 l + len0 l'
    · rw [if_pos h16]
      refine Ev.step (f := fun _ => some (0, [], 2)) (fun k => ?_) (Ev.now _)
      rw [sound_Join.l0, if_neg (by omega), ha, Option.bind_some, if_pos rfl, length_f b (show 0 < l.length by omega), Option.bind_some, length_f b' (show 0 < l'.length by omega), Option.bind_some, hw, if_pos h16]
    · rw [if_neg h16]
      have hj := join_l1 (b := b) (b' := b') hL.2 (fun x hm => by have := hx x hm; omega) (fun x hm => by have := hx' x hm; omega) l l' [] [] [] rfl rfl rfl hc.2 (by simp; omega)
      rw [List.nil_append, show ((([] : List (List Int)).length : Nat) : Int) = 0 from rfl] at hj
      refine Ev.step (fun k => ?_) hj
      rw [sound_Join.l0, if_neg (by omega), ha, Option.bind_some, if_pos rfl, length_f b (show 0 < l.length by omega), Option.bind_some, length_f b' (show 0 < l'.length by omega), Option.bind_some, hw, if_neg h16]
  · rw [if_neg hc]
    have ha : sound_alike.f b l b' l' = some false := by
      unfold sound_alike.f
      by_cases e : b = b'
      · rw [if_pos e]; simp; omega
      · rw [if_neg e]
    refine Ev.step (f := fun _ => some (0, [], 4)) (fun k => ?_) (Ev.now _)
    rw [sound_Join.l0, if_neg (by omega), ha, Option.bind_some, if_neg (by simp)]
theorem join_1 (h : checkF b l = 0) : Ev (fun k => sound_Join.l0 k (two b l b' l') 2 1 b l b' l') (if checkF b' l' = 0 then joinE b l b' l' else (0, [], checkF b' l')) := by
  by_cases h' : checkF b' l' = 0
  · rw [if_pos h']
    refine Ev.step (fun k => ?_) (join_2 h h')
    rw [sound_Join.l0, if_pos (by omega), if_pos (by omega), if_pos (by rw [two_len]; omega), two_1, check_eq, Option.bind_some, if_pos h', w_11]
  · rw [if_neg h']
    refine Ev.step (f := fun _ => some (0, [], checkF b' l')) (fun k => ?_) (Ev.now _)
    rw [sound_Join.l0, if_pos (by omega), if_pos (by omega), if_pos (by rw [two_len]; omega), two_1, check_eq, Option.bind_some, if_neg h']
theorem ev_join : Ev (fun k => sound_Join.f k b l b' l') (joinF b l b' l') := by
  have e : joinF b l b' l' = if checkF b l = 0 then (if checkF b' l' = 0 then joinE b l b' l' else (0, [], checkF b' l')) else (0, [], checkF b l) := rfl
  rw [e]
  have e2 : ∀ k, sound_Join.f k b l b' l' = sound_Join.l0 k (two b l b' l') 2 0 b l b' l' := fun _ => rfl
  refine Ev.congr e2 ?_
  by_cases h : checkF b l = 0
  · rw [if_pos h]
    refine Ev.step (fun k => ?_) (join_1 h)
    rw [sound_Join.l0, if_pos (by omega), if_pos (by omega), if_pos (by rw [two_len]; omega), two_0, check_eq, Option.bind_some, if_pos h, w_01]
  · rw [if_neg h]
    refine Ev.step (f := fun _ => some (0, [], checkF b l)) (fun k => ?_) (Ev.now _)
    rw [sound_Join.l0, if_pos (by omega), if_pos (by omega), if_pos (by rw [two_len]; omega), two_0, check_eq, Option.bind_some, if_neg h]
theorem ev_rjoin (hs : small l) (hs' : small l') : Ev (fun k => dioramaref16_Join.f k b l b' l') (joinF b l b' l') := by
  unfold dioramaref16_Join.f joinF
  refine Ev.bind (ev_rcheck hs) ?_
  by_cases h : checkF b l = 0
  · simp only [if_pos h]
    refine Ev.bind (ev_rcheck hs') ?_
    by_cases h' : checkF b' l' = 0
    · simp only [if_pos h']
      obtain ⟨hb, hL, hx, hn, hv⟩ := check_ok h
      obtain ⟨hb', hL', hx', hn', hv'⟩ := check_ok h'
      have bad : ∀ c : Bool, c = true → Ev (fun k => dioramaref16_Join.j0 k c b l b' l') (0, [], 4) := by
        intro c hc
        subst hc
        exact Ev.step (f := fun _ => some (0, [], 4)) (fun k => by simp [dioramaref16_Join.j0]) (Ev.now _)
      by_cases e : b = b'
      · simp only [if_pos e]
        by_cases hc : l.length = l'.length
        · have hne : ((l.length : Int) != (l'.length : Int)) = false := by simp; omega
          simp only [hne, if_pos (And.intro e hc)]
          have hw : wrap64 (len0 l + len0 l') = len0 l + len0 l' := by unfold len0 wrap64; omega
          have q1 : ((rd_L1 l 0).length : Int) = len0 l := rfl
          have q2 : ((rd_L1 l' 0).length : Int) = len0 l' := rfl
          by_cases h16 : 16384 < len0 l + len0 l'
          · simp only [if_pos h16]
            refine Ev.step (f := fun _ => some (0, [], 2)) (fun k => ?_) (Ev.now _)
            simp only [dioramaref16_Join.j0, Bool.false_eq_true, if_false, q1, q2, hw]
            rw [if_pos (by omega), if_pos (by omega), if_pos h16]
          · simp only [if_neg h16]
            refine Ev.step (fun k => ?_) (rjoin_l0 (b := b) (b' := b') hL.2 (fun x hm => by have := hx x hm; omega) (fun x hm => by have := hx' x hm; omega) l l' [] [] [] rfl rfl rfl hc (by simp; omega))
            simp only [dioramaref16_Join.j0, Bool.false_eq_true, if_false, q1, q2, hw]
            rw [if_pos (by omega), if_pos (by omega), if_neg h16]
            rfl
        · have hne : ((l.length : Int) != (l'.length : Int)) = true := by simp; omega
          simp only [if_neg (show ¬ (b = b' ∧ l.length = l'.length) from fun q => hc q.2)]
          exact bad _ hne
      · simp only [if_neg e, if_neg (show ¬ (b = b' ∧ l.length = l'.length) from fun q => e q.1)]
        exact bad _ rfl
    · simp only [if_neg h']; exact Ev.now _
  · simp only [if_neg h]; exact Ev.now _
end
end Go.Proofs.Ytdiemkeflmflaaa.PureI
