/- A lemma file: Check, in the form of the printed functions. No condition. A text of the pure side: what an errorless Check tells. No condition. A text of the pure side: the entries of tables, sample by sample; what an errorless Check tells. No condition. A text of the pure side: what a Lookup answers. No condition. -/
import Derived.Test.YtmbhafgnmdfjhaaMP
import Derived.Test.YtmbhafgnmdfjhaaMNA
import Derived.Test.YtmbhafgnmdfjhaaMR
import Derived.Test.YtmbhafgnmdfjhaaMNE
namespace Go.Proofs.Ytmbhafgnmdfjhaa.QTab
open Go.Proofs.Ytmbhafgnmdfjhaa.PureT Go.RowKit Go.Proofs.YtmbhafgnmdfjhaaW.PrintWords Go.Proofs.YtmbhafgnmdfjhaaW.PrintLast Go.Proofs.YtmbhafgnmdfjhaaW.PrintMore Go.Proofs.YtmbhafgnmdfjhaaV
set_option linter.unusedVariables false
set_option linter.unusedSimpArgs false
def chkV (t : S27) : Int := checkF t (totG 0 t.f1) (totG 0 t.f2) (totG 0 t.f9) (msF t.f7) (valG t.f1) (valG t.f2) (fndF t)
theorem chk_calls {w : World} (t : S27) (d : D27) (hr : R27 w t d) (h : smallB t = true) : Calls Try.prog 12 #[.agg (cells27 t d)] w fun e w' => e = .returned (.int .i64 (chkV t)) ∧ Below w.heap.size w w' := by
  obtain ⟨L, -, -⟩ := lens_of h
  obtain ⟨K, ps, hv, hK⟩ := both_ev t L
  exact check_calls K t d hr _ _ _ _ _ _ _ _ (hK K (Nat.le_refl _)).c
theorem rchk_calls {w : World} (t : S27) (d : D27) (hr : R27 w t d) (h : smallB t = true) : Calls Try.prog 13 #[.agg (cells27 t d)] w fun e w' => e = .returned (.int .i64 (chkV t)) ∧ Below w.heap.size w w' := by
  obtain ⟨L, -, -⟩ := lens_of h
  obtain ⟨K, ps, hv, hK⟩ := both_ev t L
  have B := hK K (Nat.le_refl _)
  unfold chkV
  rw [B.e]
  exact rcheck_calls K t d hr _ _ _ _ _ _ B.r
def table_Check.f (a0_0 : Int) (l0_1 : List S83) (l0_2 : List S83) (l0_3 : List Int) (a0_4 : Bool) (a0_5 : Int) (l0_6 : List Int) (l0_7 : List S86) (l0_8 : List Int) (l0_9 : List S83) (l0_10 : List (List Int)) : Option (Int) := if smallB (⟨a0_0, l0_1, l0_2, l0_3, a0_4, a0_5, l0_6, l0_7, l0_8, l0_9, l0_10⟩ : S27) = true then some (chkV (⟨a0_0, l0_1, l0_2, l0_3, a0_4, a0_5, l0_6, l0_7, l0_8, l0_9, l0_10⟩ : S27)) else none
theorem table_Check.calls (a0_0 : Int) (A0_1 : Option Addr) (c0_1 : Nat) (l0_1 : List S83) (A0_2 : Option Addr) (c0_2 : Nat) (l0_2 : List S83) (A0_3 : Option Addr) (c0_3 : Nat) (l0_3 : List Int) (a0_4 : Bool) (a0_5 : Int) (A0_6 : Option Addr) (c0_6 : Nat) (l0_6 : List Int) (A0_7 : Option Addr) (c0_7 : Nat) (l0_7 : List S86) (A0_8 : Option Addr) (c0_8 : Nat) (l0_8 : List Int) (A0_9 : Option Addr) (c0_9 : Nat) (l0_9 : List S83) (A0_10 : Option Addr) (c0_10 : Nat) (l0_10 : List (List Int)) (r : Int) (w : World) (hr0_1 : Kd.C k83 w A0_1 l0_1.length l0_1) (hc0_1 : l0_1.length ≤ c0_1) (hr0_2 : Kd.C k83 w A0_2 l0_2.length l0_2) (hc0_2 : l0_2.length ≤ c0_2) (hr0_3 : Kd.C (Kd.int .i64) w A0_3 l0_3.length l0_3) (hc0_3 : l0_3.length ≤ c0_3) (hr0_6 : Kd.C (Kd.int .i64) w A0_6 l0_6.length l0_6) (hc0_6 : l0_6.length ≤ c0_6) (hr0_7 : Kd.C k86 w A0_7 l0_7.length l0_7) (hc0_7 : l0_7.length ≤ c0_7) (hr0_8 : Kd.C (Kd.int .i64) w A0_8 l0_8.length l0_8) (hc0_8 : l0_8.length ≤ c0_8) (hr0_9 : Kd.C k83 w A0_9 l0_9.length l0_9) (hc0_9 : l0_9.length ≤ c0_9) (hr0_10 : Kd.C (Kd.slice 3 (Kd.int .i64)) w A0_10 l0_10.length l0_10) (hc0_10 : l0_10.length ≤ c0_10) (h : table_Check.f a0_0 l0_1 l0_2 l0_3 a0_4 a0_5 l0_6 l0_7 l0_8 l0_9 l0_10 = some r) :
    Calls Try.prog 12 #[.agg #[.int .i64 a0_0, .slice A0_1 l0_1.length c0_1, .slice A0_2 l0_2.length c0_2, .slice A0_3 l0_3.length c0_3, .bool a0_4, .int .i64 a0_5, .slice A0_6 l0_6.length c0_6, .slice A0_7 l0_7.length c0_7, .slice A0_8 l0_8.length c0_8, .slice A0_9 l0_9.length c0_9, .slice A0_10 l0_10.length c0_10]] w fun e w' => e = .returned (.int .i64 r) ∧ Below w.heap.size w w' := by
  unfold table_Check.f at h
  by_cases hs : smallB (⟨a0_0, l0_1, l0_2, l0_3, a0_4, a0_5, l0_6, l0_7, l0_8, l0_9, l0_10⟩ : S27) = true
  · rw [if_pos hs] at h
    cases h
    exact chk_calls (⟨a0_0, l0_1, l0_2, l0_3, a0_4, a0_5, l0_6, l0_7, l0_8, l0_9, l0_10⟩ : S27) (⟨A0_1, c0_1, A0_2, c0_2, A0_3, c0_3, A0_6, c0_6, A0_7, c0_7, A0_8, c0_8, A0_9, c0_9, A0_10, c0_10⟩ : D27) ⟨hr0_1, hr0_2, hr0_3, hr0_6, hr0_7, hr0_8, hr0_9, hr0_10, hc0_1, hc0_2, hc0_3, hc0_6, hc0_7, hc0_8, hc0_9, hc0_10⟩ hs
  · rw [if_neg hs] at h
    cases h
end Go.Proofs.Ytmbhafgnmdfjhaa.QTab
namespace Go.Proofs.Ytmbhafgnmdfjhaa.PureT
open Go.RowKit Go.Proofs.Ytmbhafgnmdfjhaa.QTab Go.Proofs.YtmbhafgnmdfjhaaW.PrintWords Go.Proofs.YtmbhafgnmdfjhaaW.PrintMore Go.Proofs.YtmbhafgnmdfjhaaV
structure ChkZero (t : S27) : Prop where
  rg : rgB t = true
  n : totG 0 t.f1 ≤ 400
  c : countsB t (totG 0 t.f1) (totG 0 t.f2) (totG 0 t.f9) (msF t.f7) = true
  z : ((valG t.f1).take (totG 0 t.f1 - 1).toNat).any (fun x => x == 0) = false
  ts : timesB (valG t.f2) 0 t.f0 (valG t.f1) = true
  d : depsB t.f4 (fndF t) 0 t.f10 = true
theorem chk_zero {t : S27} (h : chkV t = 0) : ChkZero t := by
  unfold chkV checkF at h
  by_cases h1 : rgB t = false
  · rw [if_pos h1] at h; exact absurd h (by decide)
  rw [if_neg h1] at h
  by_cases h2 : decide (400 < totG 0 t.f1) = true
  · rw [if_pos h2] at h; exact absurd h (by decide)
  rw [if_neg h2] at h
  by_cases h3 : countsB t (totG 0 t.f1) (totG 0 t.f2) (totG 0 t.f9) (msF t.f7) = false
  · rw [if_pos h3] at h; exact absurd h (by decide)
  rw [if_neg h3] at h
  by_cases h4 : ((valG t.f1).take (totG 0 t.f1 - 1).toNat).any (fun x => x == 0) = true
  · rw [if_pos h4] at h; exact absurd h (by decide)
  rw [if_neg h4] at h
  by_cases h5 : timesB (valG t.f2) 0 t.f0 (valG t.f1) = false
  · rw [if_pos h5] at h; exact absurd h (by decide)
  rw [if_neg h5] at h
  by_cases h6 : depsB t.f4 (fndF t) 0 t.f10 = false
  · rw [if_pos h6] at h; exact absurd h (by decide)
  exact ⟨by simpa using h1, by simpa using h2, by simpa using h3, (Bool.not_eq_true _).mp h4, by simpa using h5, by simpa using h6⟩
end Go.Proofs.Ytmbhafgnmdfjhaa.PureT
namespace Go.Proofs.Ytmbhafgnmdfjhaa.PureT
open Go.RowKit Go.Proofs.Ytmbhafgnmdfjhaa.QTab Go.Proofs.YtmbhafgnmdfjhaaW.PrintWords Go.Proofs.YtmbhafgnmdfjhaaW.PrintMore Go.Proofs.YtmbhafgnmdfjhaaV
def szF (t : S27) (j : Nat) : Int := if t.f5 = 0 then rd t.f6 j else t.f5
def plW (t : S27) (p : Int) (a : Nat) : Nat → Int
  | 0 => p
  | m + 1 => wrap64 (plW t p a m + szF t (a + m))
def preL (L : List Int) (c : Nat) : Int := lsum (L.take c)
def ckOf : List Int → Int → Nat
  | [], _ => 0
  | x :: l, i => if i < x then 0 else ckOf l (i - x) + 1
theorem preL_zero (L : List Int) : preL L 0 = 0 := rfl
theorem preL_cons (x : Int) (L : List Int) (c : Nat) : preL (x :: L) (c + 1) = x + preL L c := rfl
theorem preL_next : ∀ {L : List Int} {c : Nat}, c < L.length → preL L (c + 1) = preL L c + rd L c
  | [], _, h => by simp at h
  | x :: l, 0, _ => by
    show x + lsum (List.take 0 l) = 0 + rd (x :: l) ((0 : Nat) : Int)
    rw [List.take_zero]
    show x + 0 = 0 + x
    omega
  | x :: l, c + 1, h => by
    have ih := preL_next (L := l) (c := c) (by simpa using h)
    rw [preL_cons, preL_cons, ih]
    have : rd (x :: l) ((c + 1 : Nat) : Int) = rd l (c : Int) := by
      show (x :: l).getD ((c + 1 : Nat) : Int).toNat 0 = l.getD (c : Int).toNat 0
      rw [Int.toNat_natCast, Int.toNat_natCast]; rfl
    rw [this]; omega
theorem preL_all (L : List Int) : preL L L.length = lsum L := by unfold preL; rw [List.take_length]
theorem preL_nn {L : List Int} (hn : ∀ x ∈ L, 0 ≤ x) (c : Nat) : 0 ≤ preL L c := lsum_nn (fun x hx => hn x (List.mem_of_mem_take hx))
theorem preL_step {L : List Int} (hn : ∀ x ∈ L, 0 ≤ x) (c : Nat) : preL L c ≤ preL L (c + 1) := by
  by_cases h : c < L.length
  · rw [preL_next h]
    have := hn _ (rd_mem h)
    omega
  · unfold preL
    rw [List.take_of_length_le (by omega), List.take_of_length_le (by omega)]
    exact Int.le_refl _
theorem preL_mono {L : List Int} (hn : ∀ x ∈ L, 0 ≤ x) {a b : Nat} (h : a ≤ b) : preL L a ≤ preL L b := by
  induction b with
  | zero => rw [show a = 0 by omega]; exact Int.le_refl _
  | succ b ih =>
    by_cases hb : a = b + 1
    · rw [hb]; exact Int.le_refl _
    · exact Int.le_trans (ih (by omega)) (preL_step hn b)
theorem ck_of : ∀ {L : List Int} {c : Nat} {i : Int}, (∀ x ∈ L, 0 ≤ x) → c < L.length → preL L c ≤ i → i < preL L (c + 1) → ckOf L i = c
  | [], _, _, _, h, _, _ => by simp at h
  | x :: l, 0, i, hn, _, h0, h1 => by
    have e : preL (x :: l) (0 + 1) = x + 0 := rfl
    rw [ckOf, if_pos (by omega)]
  | x :: l, c + 1, i, hn, hc, h0, h1 => by
    rw [preL_cons] at h0 h1
    have hnl : ∀ y ∈ l, 0 ≤ y := fun y hy => hn y (List.mem_cons_of_mem _ hy)
    have := preL_nn hnl c
    rw [ckOf, if_neg (by omega), ck_of (c := c) hnl (by simpa using hc) (by omega) (by omega)]
theorem ck_ex : ∀ {L : List Int} {i : Int}, (∀ x ∈ L, 0 ≤ x) → 0 ≤ i → i < lsum L → ckOf L i < L.length ∧ preL L (ckOf L i) ≤ i ∧ i < preL L (ckOf L i + 1)
  | [], i, _, h0, h1 => by simp only [lsum] at h1; omega
  | x :: l, i, hn, h0, h1 => by
    have hnl : ∀ y ∈ l, 0 ≤ y := fun y hy => hn y (List.mem_cons_of_mem _ hy)
    rw [ckOf]
    by_cases hx : i < x
    · rw [if_pos hx]
      refine ⟨by simp, h0, ?_⟩
      have e : preL (x :: l) (0 + 1) = x + 0 := rfl
      omega
    · rw [if_neg hx]
      simp only [lsum] at h1
      obtain ⟨a, b, c⟩ := ck_ex (i := i - x) hnl (by omega) (by omega)
      refine ⟨by simp only [List.length_cons]; omega, ?_, ?_⟩
      · rw [preL_cons]; omega
      · rw [preL_cons]; omega
def plAt (t : S27) (L : List Int) (i : Nat) : Int := plW t (rd t.f8 (ckOf L i)) (preL L (ckOf L i)).toNat (i - (preL L (ckOf L i)).toNat)
def depF (t : S27) (i : Nat) : List Int := if 0 < t.f10.length then (rd_L3 t.f10 i).map (fun d => wrap64 ((i : Int) - d)) else []
def msL (t : S27) : List Int := (List.range t.f8.length).map (msF t.f7)
def tmN (t : S27) : Nat := (valG t.f1).length
def ptsF (t : S27) (i : Nat) : Int := if 0 < (valG t.f2).length then wrap64 (dtsAt t.f0 (valG t.f1) i + rd (valG t.f2) i) else dtsAt t.f0 (valG t.f1) i
def durF (t : S27) (i : Nat) : Int := if 0 < (valG t.f9).length then rd (valG t.f9) i else rd (valG t.f1) i
def entT (t : S27) (i : Nat) : S48 := ⟨dtsAt t.f0 (valG t.f1) i, ptsF t i, durF t i, szF t i, plAt t (msL t) i, ckOf (msL t) i, t.f4 || fndF t i, depF t i⟩
def entR (t : S27) (i : Nat) : S51 := ⟨dtsAt t.f0 (valG t.f1) i, ptsF t i, durF t i, szF t i, plAt t (msL t) i, ckOf (msL t) i, t.f4 || fndF t i, depF t i⟩
def entsT (t : S27) : List S48 := (List.range (tmN t)).map (entT t)
def entsR (t : S27) : List S51 := (List.range (tmN t)).map (entR t)
/-! what an errorless Check tells -/
structure GoodT (t : S27) : Prop where
  p1 : pos t.f1
  p2 : pos t.f2
  p9 : pos t.f9
  n : tmN t ≤ 400
  tot : totG 0 t.f1 = (tmN t : Int)
  o : 0 < t.f2.length → (valG t.f2).length = tmN t ∧ sumZ t.f2 = tmN t
  d : 0 < t.f9.length → (valG t.f9).length = tmN t ∧ sumZ t.f9 = tmN t
  z0 : t.f5 = 0 → t.f6.length = tmN t
  z1 : 0 ≤ t.f5 ∧ t.f5 ≤ 65536
  al : t.f4 = true → t.f3.length = 0
  sy : syncsB (tmN t) 0 t.f3 = true
  ok : chOk t = true
  ms : ∀ x ∈ msL t, 0 ≤ x ∧ x ≤ 400
  sum : lsum (msL t) = tmN t
  dn : 0 < t.f10.length → t.f10.length = tmN t
  zt : ((valG t.f1).take (tmN t - 1)).any (fun x => x == 0) = false
  ts : timesB (valG t.f2) 0 t.f0 (valG t.f1) = true
  ds : depsB t.f4 (fndF t) 0 t.f10 = true
  sz : ∀ x ∈ t.f6, 0 ≤ x ∧ x ≤ 65536
  pl : ∀ x ∈ t.f8, 0 ≤ x ∧ x ≤ 1048576
  f0 : -1099511627776 ≤ t.f0 ∧ t.f0 ≤ 1099511627776
  v1 : t.f1.any (badR 0 2199023255552) = false
  v9 : t.f9.any (badR 0 1099511627776) = false
  v2 : t.f2.any (badR (-2199023255552) 2199023255552) = false
theorem valG_nil {l : List S83} (h : ¬ 0 < l.length) : valG l = [] := by
  rw [List.length_eq_zero_iff.mp (show l.length = 0 by omega)]; rfl
theorem msL_len (t : S27) : (msL t).length = t.f8.length := by simp [msL]
theorem rd_msL {t : S27} {c : Nat} (h : c < t.f8.length) : rd (msL t) (c : Int) = msF t.f7 c := by
  unfold msL
  show ((List.range t.f8.length).map (msF t.f7)).getD (c : Int).toNat 0 = _
  rw [Int.toNat_natCast, List.getD_eq_getElem?_getD, List.getElem?_map, List.getElem?_range h]; rfl
theorem ms_rng {t : S27} (hok : chOk t = true) (h7 : t.f7.any badC = false) : ∀ x ∈ msL t, 0 ≤ x ∧ x ≤ 400 := by
  intro x hx
  obtain ⟨j, hj, rfl⟩ := List.mem_map.mp hx
  have hj := List.mem_range.mp hj
  unfold chOk at hok
  rw [Bool.and_eq_true] at hok
  have hl : 0 < t.f7.length := by
    have h9 := beq_iff_eq.mp hok.1
    rw [decide_eq_true (show 0 < t.f8.length by omega)] at h9
    exact of_decide_eq_true h9
  have hk := kSt_pos hl (ch_first hok.2 hl) j
  have hk2 := (kSt_rng t.f7 (j + 1)).2
  have hm : rd_T86 t.f7 (kSt t.f7 (j + 1)) ∈ t.f7 := by
    have hlt : (kSt t.f7 (j + 1)).toNat < t.f7.length := by omega
    have : rd_T86 t.f7 (kSt t.f7 (j + 1)) = t.f7[(kSt t.f7 (j + 1)).toNat] := by
      show t.f7.getD _ _ = _
      rw [List.getD_eq_getElem?_getD, List.getElem?_eq_getElem hlt]; rfl
    rw [this]; exact List.getElem_mem _
  rw [List.any_eq_false] at h7
  have h8 := h7 _ hm
  simp only [badC, Bool.or_eq_true, not_or, Bool.not_eq_true, Bool.not_eq_false', decide_eq_true_eq] at h8
  exact h8
theorem badN_rng {a : Int} {l : List Int} (h : l.any (badN a) = false) : ∀ x ∈ l, 0 ≤ x ∧ x ≤ a := by
  intro x hx
  rw [List.any_eq_false] at h
  have h8 := h x hx
  simp only [badN, Bool.or_eq_true, not_or, Bool.not_eq_true, Bool.not_eq_false', decide_eq_true_eq] at h8
  exact h8
theorem good_of {t : S27} (h : chkV t = 0) : GoodT t := by
  obtain ⟨rg, n, c, z, ts, d⟩ := chk_zero h
  obtain ⟨p1, p2, p9, h7⟩ := rgB_parts rg
  obtain ⟨_, e1, n1⟩ := tc_eq p1
  obtain ⟨_, e2, _⟩ := tc_eq p2
  obtain ⟨_, e9, _⟩ := tc_eq p9
  have s1 := e1 n
  have l1 := valG_len _ p1
  have hN : totG 0 t.f1 = (tmN t : Int) := by rw [tmN, l1, s1]
  rw [rg_eq] at rg
  unfold rg1 at rg
  simp only [Bool.and_eq_true, Bool.not_eq_true', decide_eq_true_eq] at rg
  obtain ⟨⟨g0, g1, g9, g2, g5a, g5b⟩, g6, g8, g7⟩ := rg
  unfold countsB at c
  simp only [Bool.and_eq_true, Bool.not_eq_true'] at c
  obtain ⟨c1, c2, c3, c4, c5, c6⟩ := c
  rw [hN] at c1 c2 c3 c6 n z
  have hok : chOk t = true := by unfold chOk; rw [c4, c5]; rfl
  have hms := ms_rng hok h7
  unfold bad1 at c1
  simp only [Bool.or_eq_false_iff] at c1
  obtain ⟨⟨c1a, c1b⟩, c1c⟩ := c1
  unfold bad2 at c2
  simp only [Bool.or_eq_false_iff] at c2
  obtain ⟨⟨c2a, c2b⟩, c2c⟩ := c2
  obtain ⟨k1, k2⟩ := cap_eq (msF t.f7) t.f8.length (fun j hj => hms _ (List.mem_map.mpr ⟨j, List.mem_range.mpr hj, rfl⟩))
  have c6 := beq_iff_eq.mp c6
  rw [k1] at c6
  refine ⟨p1, p2, p9, by omega, hN, fun h2 => ?_, fun h9 => ?_, fun h5 => ?_, ⟨g5a, g5b⟩, fun h4 => ?_, c3, hok, hms, ?_, fun h10 => ?_, ?_, ts, d, badN_rng g6, badN_rng g8, ?_, g1, g9, g2⟩
  · rw [decide_eq_true h2, Bool.true_and, bne_eq_false_iff_eq] at c1a
    have := e2 (by omega)
    have := valG_len _ p2
    omega
  · rw [decide_eq_true h9, Bool.true_and, bne_eq_false_iff_eq] at c1b
    have := e9 (by omega)
    have := valG_len _ p9
    omega
  · rw [h5] at c2a
    rw [show ((0 : Int) == 0) = true from rfl, Bool.true_and, bne_eq_false_iff_eq] at c2a
    omega
  · rw [h4, Bool.true_and] at c2c
    have := of_decide_eq_false c2c
    omega
  · show lsum ((List.range t.f8.length).map (msF t.f7)) = _
    omega
  · rw [decide_eq_true h10, Bool.true_and, bne_eq_false_iff_eq] at c1c
    omega
  · rw [show tmN t - 1 = ((tmN t : Int) - 1).toNat by omega]; exact z
  · unfold inT at g0
    simp only [Bool.and_eq_true, decide_eq_true_eq] at g0
    exact g0
/-! the list of an expanded table -/
theorem set_map {β : Type} (N k : Nat) (e : Nat → β) (x : β) : ((List.range N).map e).set k x = (List.range N).map (fun j => if j = k then x else e j) := by
  apply List.ext_getElem?
  intro j
  rw [List.getElem?_set, List.getElem?_map, List.getElem?_map]
  by_cases hj : j < N
  · rw [List.getElem?_range hj]
    by_cases hk : k = j
    · rw [if_pos hk]
      simp [hk, hj]
    · rw [if_neg hk]
      simp only [Option.map_some]
      rw [if_neg (fun h => hk h.symm)]
  · have e1 : (List.range N)[j]? = none := by rw [List.getElem?_eq_none_iff]; simp; omega
    rw [e1]
    by_cases hk : k = j
    · rw [if_pos hk, if_neg (by simp; omega)]; rfl
    · rw [if_neg hk]; rfl
theorem getD_map {β : Type} {N k : Nat} (e : Nat → β) (z : β) (h : k < N) : ((List.range N).map e).getD k z = e k := by
  rw [List.getD_eq_getElem?_getD, List.getElem?_map, List.getElem?_range h]; rfl
theorem map_ext {β : Type} {N : Nat} {e e' : Nat → β} (h : ∀ j, j < N → e j = e' j) : (List.range N).map e = (List.range N).map e' :=
  List.map_congr_left (fun j hj => h j (List.mem_range.mp hj))
theorem setSync_map {N : Nat} (e : Nat → S48) {s : Int} (h1 : 1 ≤ s) (h2 : s ≤ N) : setSync ((List.range N).map e) s = (List.range N).map (fun j => if j = (s - 1).toNat then { e (s - 1).toNat with f6 := true } else e j) := by
  unfold setSync
  rw [getD_map e _ (by omega), set_map]
theorem sync_fold {N : Nat} : ∀ (l : List Int) (e : Nat → S48), (∀ s ∈ l, 1 ≤ s ∧ s ≤ N) → l.foldl setSync ((List.range N).map e) = (List.range N).map (fun j => { e j with f6 := (e j).f6 || decide ((j : Int) + 1 ∈ l) })
  | [], e, _ => by
    rw [List.foldl_nil]
    refine map_ext (fun j _ => ?_)
    rw [show decide ((j : Int) + 1 ∈ ([] : List Int)) = false from by simp, Bool.or_false]
  | s :: l, e, h => by
    have hs := h s (List.mem_cons_self ..)
    rw [List.foldl_cons, setSync_map e hs.1 hs.2, sync_fold l _ (fun x hx => h x (List.mem_cons_of_mem _ hx))]
    refine map_ext (fun j _ => ?_)
    show ({ (if j = (s - 1).toNat then { e (s - 1).toNat with f6 := true } else e j) with f6 := _ } : S48) = _
    by_cases hj : j = (s - 1).toNat
    · rw [if_pos hj]
      have : decide ((j : Int) + 1 ∈ s :: l) = true := decide_eq_true (by rw [show (j : Int) + 1 = s by omega]; exact List.mem_cons_self ..)
      rw [this, Bool.or_true, ← hj, Bool.true_or]
    · rw [if_neg hj]
      have : decide ((j : Int) + 1 ∈ s :: l) = decide ((j : Int) + 1 ∈ l) := by
        have : (j : Int) + 1 ≠ s := by omega
        simp [this]
      rw [this]
theorem placeN_eq {t : S27} {N : Nat} {e : Nat → S48} (he : ∀ j, (e j).f3 = szF t j) (c p : Int) (i : Nat) : ∀ m, i + m ≤ N →
    placeN c m ⟨(List.range N).map e, i, p⟩ = ⟨(List.range N).map (fun j => if i ≤ j ∧ j < i + m then { e j with f5 := c, f4 := plW t p i (j - i) } else e j), i + m, plW t p i m⟩
  | 0, _ => by
    show (⟨_, _, _⟩ : PSt) = _
    rw [show (fun j => if i ≤ j ∧ j < i + 0 then { e j with f5 := c, f4 := plW t p i (j - i) } else e j) = e from funext (fun j => by rw [if_neg (by omega)])]
    rfl
  | m + 1, h => by
    rw [placeN, placeN_eq he c p i m (by omega)]
    unfold placeOne
    simp only
    rw [getD_map _ _ (show i + m < N by omega), set_map, if_neg (by omega), he]
    congr 1
    refine map_ext (fun j _ => ?_)
    by_cases hj : j = i + m
    · rw [if_pos hj, if_pos (by omega), hj, show i + m - i = m by omega, ← he (i + m)]
    · rw [if_neg hj]
      by_cases hj2 : i ≤ j ∧ j < i + m
      · rw [if_pos hj2, if_pos (by omega)]
      · rw [if_neg hj2, if_neg (by omega)]
theorem placeC_eq {t : S27} {e : Nat → S48} (G : GoodT t) (he : ∀ j, (e j).f3 = szF t j) : ∀ c, c ≤ t.f8.length →
    ∃ q, placeC t.f8 (msF t.f7) ((List.range (tmN t)).map e) c = ⟨(List.range (tmN t)).map (fun j : Nat => if (j : Int) < preL (msL t) c then { e j with f5 := (ckOf (msL t) j : Int), f4 := plAt t (msL t) j } else e j), (preL (msL t) c).toNat, q⟩
  | 0, _ => ⟨0, by
    show (⟨_, _, _⟩ : PSt) = _
    have : ∀ j : Nat, (if (j : Int) < preL (msL t) 0 then { e j with f5 := (ckOf (msL t) j : Int), f4 := plAt t (msL t) j } else e j) = e j := fun j => by rw [preL_zero, if_neg (by omega)]
    simp only [this]
    rfl⟩
  | c + 1, h => by
    obtain ⟨q, hq⟩ := placeC_eq G he c (by omega)
    have hnn : ∀ x ∈ msL t, 0 ≤ x := fun x hx => (G.ms x hx).1
    have h0 := preL_nn hnn c
    have hs := preL_next (L := msL t) (c := c) (by rw [msL_len]; omega)
    rw [rd_msL (show c < t.f8.length by omega)] at hs
    have hm : 0 ≤ msF t.f7 c := by have := (G.ms (msF t.f7 c) (List.mem_map.mpr ⟨c, List.mem_range.mpr (by omega), rfl⟩)).1; exact this
    have hle : preL (msL t) (c + 1) ≤ tmN t := by
      have h1 := preL_mono hnn (show c + 1 ≤ (msL t).length by rw [msL_len]; omega)
      rw [preL_all, G.sum] at h1
      exact h1
    refine ⟨plW t (rd t.f8 c) (preL (msL t) c).toNat (msF t.f7 c).toNat, ?_⟩
    rw [placeC, hq]
    simp only
    have h3 : ∀ j, ((fun j : Nat => if (j : Int) < preL (msL t) c then { e j with f5 := (ckOf (msL t) j : Int), f4 := plAt t (msL t) j } else e j) j).f3 = szF t j := by
      intro j
      show (if (j : Int) < preL (msL t) c then { e j with f5 := (ckOf (msL t) j : Int), f4 := plAt t (msL t) j } else e j).f3 = szF t j
      split
      · exact he j
      · exact he j
    rw [placeN_eq h3 (c : Int) (rd t.f8 c) (preL (msL t) c).toNat (msF t.f7 c).toNat (by omega)]
    have ei : (preL (msL t) c).toNat + (msF t.f7 c).toNat = (preL (msL t) (c + 1)).toNat := by omega
    rw [ei]
    congr 1
    refine map_ext (fun j _ => ?_)
    simp only
    by_cases h4 : (j : Int) < preL (msL t) c
    · rw [if_neg (by omega), if_pos h4, if_pos (by omega)]
    · by_cases h5 : (j : Int) < preL (msL t) (c + 1)
      · have hck := ck_of (L := msL t) (c := c) (i := (j : Int)) hnn (by rw [msL_len]; omega) (by omega) h5
        rw [if_pos (by omega), if_neg h4, if_pos h5, plAt, hck]
      · rw [if_neg (by omega), if_neg h4, if_neg h5]
theorem sync_rng {N : Int} : ∀ {l : List Int} {last : Int}, 0 ≤ last → syncsB N last l = true → ∀ s ∈ l, 1 ≤ s ∧ s ≤ N
  | [], _, _, _, s, hs => by simp at hs
  | a :: l, last, h0, h, s, hs => by
    rw [syncsB] at h
    simp only [Bool.and_eq_true, decide_eq_true_eq] at h
    obtain ⟨⟨h1, h2⟩, h3⟩ := h
    rcases List.mem_cons.mp hs with rfl | hs
    · exact ⟨by omega, h2⟩
    · exact sync_rng (last := a) (by omega) h3 s hs
theorem outs3_eq {t : S27} (G : GoodT t) : outs3 t (valG t.f1) (valG t.f2) (valG t.f9) (msF t.f7) = entsT t := by
  unfold outs3 outs2
  have e1 : outs1 t (valG t.f1) (valG t.f2) (valG t.f9) (valG t.f1).length (valG t.f1).length = (List.range (tmN t)).map (fun j => entOf t (valG t.f1) (valG t.f2) (valG t.f9) j (dtsAt t.f0 (valG t.f1) j)) := by
    unfold outs1; rw [Nat.sub_self, List.replicate_zero, List.append_nil]; rfl
  rw [e1, sync_fold _ _ (sync_rng (Int.le_refl _) G.sy)]
  obtain ⟨q, hq⟩ := placeC_eq (e := fun j => { entOf t (valG t.f1) (valG t.f2) (valG t.f9) j (dtsAt t.f0 (valG t.f1) j) with f6 := (entOf t (valG t.f1) (valG t.f2) (valG t.f9) j (dtsAt t.f0 (valG t.f1) j)).f6 || decide ((j : Int) + 1 ∈ t.f3) }) G (fun _ => rfl) t.f8.length (Nat.le_refl _)
  rw [hq]
  unfold entsT
  refine map_ext (fun j hj => ?_)
  rw [if_pos (by rw [show t.f8.length = (msL t).length from (msL_len t).symm, preL_all, G.sum]; omega)]
  rfl
theorem deps_at {al : Bool} {fnd : Nat → Bool} : ∀ {l : List (List Int)} {i0 : Nat}, depsB al fnd i0 l = true → ∀ j, j < l.length → badD al (fnd (i0 + j)) (rd_L3 l j) = false ∧ dpB ((i0 + j : Nat) : Int) 0 0 (rd_L3 l j) = true
  | [], _, _, j, hj => by simp at hj
  | x :: l, i0, h, j, hj => by
    rw [depsB] at h
    simp only [Bool.and_eq_true, Bool.not_eq_true'] at h
    obtain ⟨⟨h1, h2⟩, h3⟩ := h
    cases j with
    | zero => exact ⟨h1, h2⟩
    | succ j =>
      have ih := deps_at h3 j (by simpa using hj)
      rw [show i0 + 1 + j = i0 + (j + 1) by omega] at ih
      exact ih
theorem dep_len {t : S27} (G : GoodT t) {i : Nat} (hi : i < t.f10.length) : (rd_L3 t.f10 i).length ≤ 4 := by
  have h := (deps_at G.ds i hi).1
  unfold badD at h
  rw [Bool.or_eq_false_iff] at h
  have := of_decide_eq_false h.1
  omega
end Go.Proofs.Ytmbhafgnmdfjhaa.PureT
namespace Go.Proofs.Ytmbhafgnmdfjhaa.PureT
open Go.RowKit Go.Proofs.Ytmbhafgnmdfjhaa.QTab Go.Proofs.YtmbhafgnmdfjhaaW.PrintWords Go.Proofs.YtmbhafgnmdfjhaaW.PrintMore Go.Proofs.YtmbhafgnmdfjhaaV
def lkF (t : S27) (i : Int) : S48 × Int := if chkV t = 0 then (if i < 0 ∨ (tmN t : Int) ≤ i then (z48, 1) else (entT t i.toNat, 0)) else (z48, chkV t)
theorem rdT_ents {t : S27} {i : Nat} (hi : i < tmN t) : rd_T48 (entsT t) (i : Int) = entT t i := by
  show (entsT t).getD (i : Int).toNat _ = _
  rw [Int.toNat_natCast]; exact getD_map _ _ hi
theorem rdR_ents {t : S27} {i : Nat} (hi : i < tmN t) : rd_T51 (entsR t) (i : Int) = entR t i := by
  show (entsR t).getD (i : Int).toNat _ = _
  rw [Int.toNat_natCast]; exact getD_map _ _ hi
theorem dep_small {t : S27} (G : GoodT t) {i : Nat} (hi : i < tmN t) : (depF t i).length ≤ 4 := by
  unfold depF
  by_cases h : 0 < t.f10.length
  · rw [if_pos h, List.length_map]
    exact dep_len G (by have := G.dn h; omega)
  · rw [if_neg h]; exact Nat.zero_le _
end Go.Proofs.Ytmbhafgnmdfjhaa.PureT
