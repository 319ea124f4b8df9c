/- A text of the pure side: sums of runs' values, and decode times. No condition. A text of the pure side: the last sample at a decode time, by the program and by the document. No condition. A lemma file: where a search in increasing numbers ends. No condition. A text of the pure side: the last sync sample at most one, by the program and by the document. No condition. A text of the pure side: what a chunk has. No condition. A text of the pure side: what a chunk has, by the program. No condition. A lemma file: dioramaref09.Chunk, walked. No condition. A lemma file: dioramalaw09.TableAsks, walked. No condition. -/
import Derived.Test.YtmbhafgnmdfjhaaME
import Derived.Test.YtmbhafgnmdfjhaaQTabx22
import Derived.Test.YtmbhafgnmdfjhaaQTabzPAt
import Derived.Test.YtmbhafgnmdfjhaaQTabzRAt
import Derived.Test.YtmbhafgnmdfjhaaMP
import Derived.Test.YtmbhafgnmdfjhaaQTabzPBefore
import Derived.Test.YtmbhafgnmdfjhaaQTabzRBefore
import Derived.Test.YtmbhafgnmdfjhaaQTabzPChunk
import Derived.Test.YtmbhafgnmdfjhaaMX
import Derived.StillTailTactics
import Derived.Deep.CutRange
import Derived.Deep.RegionHeld3
namespace Go.Proofs.Ytmbhafgnmdfjhaa.PureT
open Go.RowKit Go.Proofs.Ytmbhafgnmdfjhaa.QTab Go.Proofs.YtmbhafgnmdfjhaaW.PrintWords Go.Proofs.YtmbhafgnmdfjhaaW.PrintMore Go.Proofs.YtmbhafgnmdfjhaaV
theorem lsum_rep (a : Int) : ∀ m : Nat, lsum (List.replicate m a) = m * a
  | 0 => by simp [lsum]
  | m + 1 => by
    rw [List.replicate_succ, lsum, lsum_rep a m, Int.natCast_succ, Int.add_mul]
    omega
theorem valG_rng {a b : Int} : ∀ {l : List S83}, l.any (badR a b) = false → ∀ x ∈ valG l, a ≤ x ∧ x ≤ b
  | [], _, x, hx => by simp [valG] at hx
  | r :: l, h, x, hx => by
    rw [List.any_cons, Bool.or_eq_false_iff] at h
    rw [valG, List.mem_append] at hx
    rcases hx with hx | hx
    · have := (List.mem_replicate.mp hx).2
      subst this
      have h1 := h.1
      unfold badR at h1
      simp only [Bool.or_eq_false_iff, Bool.not_eq_false', decide_eq_true_eq] at h1
      exact h1.2
    · exact valG_rng h.2 x hx
theorem lsum_bd {b : Int} : ∀ {l : List Int}, (∀ x ∈ l, 0 ≤ x ∧ x ≤ b) → 0 ≤ lsum l ∧ lsum l ≤ l.length * b
  | [], _ => by simp [lsum]
  | x :: l, h => by
    have h1 := h x (List.mem_cons_self ..)
    obtain ⟨a, c⟩ := lsum_bd (l := l) (fun y hy => h y (List.mem_cons_of_mem _ hy))
    rw [List.length_cons, Int.natCast_succ, Int.add_mul]
    simp only [lsum]
    omega
theorem lsum_next {l : List Int} {i : Nat} (h : i < l.length) : lsum (l.take (i + 1)) = lsum (l.take i) + rd l i := preL_next h
theorem dts_sum {t : S27} (G : GoodT t) : ∀ i, i ≤ tmN t → dtsAt t.f0 (valG t.f1) i = t.f0 + lsum ((valG t.f1).take i) ∧ 0 ≤ lsum ((valG t.f1).take i) ∧ lsum ((valG t.f1).take i) ≤ 879609302220800
  | 0, _ => by
    refine ⟨?_, ?_, ?_⟩
    · show t.f0 = t.f0 + 0; omega
    · show (0 : Int) ≤ 0; omega
    · show (0 : Int) ≤ _; omega
  | i + 1, h => by
    obtain ⟨e, _, _⟩ := dts_sum G i (by omega)
    have hb := lsum_bd (l := (valG t.f1).take (i + 1)) (b := 2199023255552) (fun x hx => valG_rng G.v1 x (List.mem_of_mem_take hx))
    have hl : (((valG t.f1).take (i + 1)).length : Int) ≤ 400 := by have := G.n; rw [List.length_take]; omega
    have hb2 : lsum ((valG t.f1).take (i + 1)) ≤ 879609302220800 := by omega
    have hn := lsum_next (l := valG t.f1) (i := i) h
    refine ⟨?_, hb.1, hb2⟩
    rw [dtsAt_next h, e, hn]
    have := G.f0
    unfold wrap64
    omega
theorem cnt_ev {t : S27} (L : Lens t) : Ev (fun k => table_Count.f k t.f0 t.f1 t.f2 t.f3 t.f4 t.f5 t.f6 t.f7 t.f8 t.f9 t.f10) (totG 0 t.f1) := by
  have l1 := L.l1
  unfold table_Count.f
  exact Ev.bind (total_ev (l := t.f1) (by omega)) (Ev.now _)
theorem chk_f {t : S27} (hs : smallB t = true) : table_Check.f t.f0 t.f1 t.f2 t.f3 t.f4 t.f5 t.f6 t.f7 t.f8 t.f9 t.f10 = some (chkV t) := if_pos hs
theorem dts_mono {t : S27} (G : GoodT t) {i j : Nat} (h : i ≤ j) (hj : j ≤ tmN t) : dtsAt t.f0 (valG t.f1) i ≤ dtsAt t.f0 (valG t.f1) j := by
  rw [(dts_sum G i (by omega)).1, (dts_sum G j hj).1]
  have := preL_mono (L := valG t.f1) (fun x hx => (valG_rng G.v1 x hx).1) h
  unfold preL at this
  omega
theorem size_f {t : S27} (G : GoodT t) {i : Nat} (hi : i < tmN t) : table_size.f t.f0 t.f1 t.f2 t.f3 t.f4 t.f5 t.f6 t.f7 t.f8 t.f9 t.f10 (i : Int) = some (szF t i) := by
  unfold table_size.f szF
  by_cases h : t.f5 = 0
  · have := G.z0 h
    rw [if_neg (by omega), if_pos (by omega), if_pos (by omega), if_pos h]
  · have := G.z1
    rw [if_pos (by omega), if_neg h]
theorem ic_ev {t : S27} (G : GoodT t) (L : Lens t) {c : Nat} (hc : c < t.f8.length) : Ev (fun k => table_inChunk.f k t.f0 t.f1 t.f2 t.f3 t.f4 t.f5 t.f6 t.f7 t.f8 t.f9 t.f10 (c : Int)) (rd (msL t) c) := by
  have hok := G.ok
  unfold chOk at hok
  rw [Bool.and_eq_true] at hok
  rw [rd_msL hc]
  exact inChunk_ev t L.l7 L.l8 hok.2 (by
        have h := beq_iff_eq.mp hok.1
        rw [decide_eq_true (show 0 < t.f8.length by omega)] at h
        exact of_decide_eq_true h) c hc
theorem pre_le {t : S27} (G : GoodT t) {c : Nat} (hc : c ≤ t.f8.length) : 0 ≤ preL (msL t) c ∧ preL (msL t) c ≤ tmN t := by
  have hnn : ∀ x ∈ msL t, 0 ≤ x := fun x hx => (G.ms x hx).1
  refine ⟨preL_nn hnn c, ?_⟩
  have h1 := preL_mono hnn (show c ≤ (msL t).length by rw [msL_len]; exact hc)
  rw [preL_all, G.sum] at h1
  exact h1
theorem ck_facts {t : S27} (G : GoodT t) {i : Nat} (hi : i < tmN t) : ckOf (msL t) i < t.f8.length ∧ preL (msL t) (ckOf (msL t) i) ≤ i ∧ (i : Int) < preL (msL t) (ckOf (msL t) i + 1) := by
  have h := ck_ex (L := msL t) (i := (i : Int)) (fun x hx => (G.ms x hx).1) (by omega) (by rw [G.sum]; omega)
  rw [msL_len] at h
  exact h
end Go.Proofs.Ytmbhafgnmdfjhaa.PureT
namespace Go.Proofs.Ytmbhafgnmdfjhaa.PureT
open Go.RowKit Go.Proofs.Ytmbhafgnmdfjhaa.QTab Go.Proofs.YtmbhafgnmdfjhaaW.PrintWords Go.Proofs.YtmbhafgnmdfjhaaW.PrintMore Go.Proofs.YtmbhafgnmdfjhaaV
/-- Sample by sample, at is the last one so far, now the next one's time. -/
def atG (dts : Int) : Int → Int → List Int → Int
  | at', _, [] => at'
  | at', now, d :: l => if now > dts then at' else atG dts (at' + 1) (wrap64 (now + d)) l
def atV (t : S27) (dts : Int) : Int := atG dts (-1) t.f0 (valG t.f1)
theorem at_stop {dts : Int} : ∀ {l : List Int} {a now : Int}, now > dts → atG dts a now l = a
  | [], _, _, _ => rfl
  | d :: l, a, now, h => by rw [atG, if_pos h]
/-! the program -/
theorem at_l1 {t : S27} {dts c v : Int} {z : Int × Int} (hc : c ≤ 400) {N : Int} (hN : N ≤ 400) {i : Nat} : ∀ (m : Nat) (j : Nat) (a now : Int) (rest : List Int), (j : Int) + m = c → -1 ≤ a → a + m + rest.length + 1 = N →
    z = (atG dts a now (List.replicate m v ++ rest), 0) →
    (∀ a' now', -1 ≤ a' → a' + rest.length + 1 = N → z = (atG dts a' now' rest, 0) → Ev (fun k => table_At.l0 k dts a' now' N t.f1 (t.f1.length : Int) (wrap64 ((i : Int) + 1))) z) →
    Ev (fun k => table_At.l1 k dts a now N t.f1 (t.f1.length : Int) (i : Int) c (j : Int) c v) z
  | 0, j, a, now, rest, hj, ha, hn, hz, hk => by
    refine Ev.step (fun k => ?_) (hk a now ha (by omega) (by simpa using hz))
    simp only [table_At.l1]
    rw [if_neg (by omega)]
  | m + 1, j, a, now, rest, hj, ha, hn, hz, hk => by
    rw [List.replicate_succ, List.cons_append, atG] at hz
    by_cases h1 : now > dts
    · rw [if_pos h1] at hz
      refine Ev.step (f := fun _ => some z) (fun k => ?_) (Ev.now _)
      simp only [table_At.l1]
      rw [if_pos (by omega), if_pos h1, hz]
    · rw [if_neg h1] at hz
      have ih := at_l1 (t := t) (dts := dts) (c := c) (v := v) (z := z) hc hN (i := i) m (j + 1) (a + 1) (wrap64 (now + v)) rest (by omega) (by omega) (by omega) hz hk
      refine Ev.step (fun k => ?_) ih
      have e1 : wrap64 (a + 1) = a + 1 := by unfold wrap64; omega
      simp only [table_At.l1]
      rw [if_pos (by omega), if_neg h1, e1, if_neg (by omega), w_next (by omega)]
theorem at_l0 {t : S27} (hl : t.f1.length ≤ 1000) {dts : Int} {z : Int × Int} {N : Int} (hN : N ≤ 400) : ∀ (r : List S83) (i : Nat) (a now : Int), t.f1.drop i = r → i ≤ t.f1.length → pos r → sumZ r ≤ 400 → -1 ≤ a → a + (valG r).length + 1 = N →
    z = (atG dts a now (valG r), 0) → Ev (fun k => table_At.l0 k dts a now N t.f1 (t.f1.length : Int) (i : Int)) z
  | [], i, a, now, h, hi, _, _, _, _, hz => by
    have hil : i = t.f1.length := by have h2 := congrArg List.length h; simp at h2; omega
    subst hil
    refine Ev.step (f := fun _ => some z) (fun k => ?_) (Ev.now _)
    simp only [table_At.l0]
    rw [if_neg (by omega), hz]
    rfl
  | x :: r, i, a, now, h, hi, hp, hs, ha, hn, hz => by
    obtain ⟨g1, g2, _⟩ := drop_at h
    have hx := hp x (List.mem_cons_self ..)
    have hsn := sumZ_nn (pos_tail hp)
    simp only [sumZ] at hs
    rw [valG, List.length_append, List.length_replicate] at hn
    rw [valG] at hz
    have h1 := at_l1 (t := t) (dts := dts) (c := x.f0) (v := x.f1) (z := z) (by omega) hN (i := i) x.f0.toNat 0 a now (valG r) (by omega) ha (by omega) hz (fun a' now' h3 h4 h5 => by
      rw [w_next (by omega)]
      exact at_l0 hl hN r (i + 1) a' now' g2 g1 (pos_tail hp) (by omega) h3 h4 h5)
    refine Ev.step (fun k => ?_) h1
    simp only [table_At.l0]
    rw [if_pos (by omega), if_pos (by omega), if_pos (by omega), rdT_drop h]
    rfl
def atF (t : S27) (dts : Int) : Int × Int := if chkV t = 0 then (atV t dts, 0) else (0, chkV t)
theorem at_ev {t : S27} (hs : smallB t = true) (dts : Int) : Ev (fun k => table_At.f k t.f0 t.f1 t.f2 t.f3 t.f4 t.f5 t.f6 t.f7 t.f8 t.f9 t.f10 dts) (atF t dts) := by
  obtain ⟨L, -, -⟩ := lens_of hs
  unfold table_At.f
  rw [chk_f hs]
  simp only [Option.bind_some]
  by_cases h0 : chkV t = 0
  · have G := good_of h0
    have hn := G.n
    obtain ⟨_, e1, _⟩ := tc_eq G.p1
    have hN : sumZ t.f1 = (tmN t : Int) := by rw [e1 (by have := G.tot; omega), G.tot]
    refine Ev.congr (fun k => if_pos h0) (Ev.bind (cnt_ev L) ?_)
    rw [G.tot, show atF t dts = (atV t dts, 0) from if_pos h0]
    exact at_l0 L.l1 (z := (atV t dts, 0)) (by omega) t.f1 0 (-1) t.f0 rfl (Nat.zero_le _) G.p1 (by omega) (by omega) (by show -1 + ((tmN t : Nat) : Int) + 1 = _; omega) rfl
  · rw [show atF t dts = (0, chkV t) from if_neg h0]
    exact Ev.congr (fun k => if_neg h0) (Ev.now _)
/-! the document -/
theorem rat_l0 {t : S27} (G : GoodT t) {dts : Int} : ∀ (d i : Nat) (a : Int), i + d = tmN t → (a = (i : Int) - 1 ∨ (0 < i ∧ a < (i : Int) - 1 ∧ ∀ j, j < tmN t → i ≤ j + 1 → dtsAt t.f0 (valG t.f1) j > dts)) →
    Ev (fun k => dioramaref09_At.l0 k dts (entsR t) a (i : Int)) ((if a = (i : Int) - 1 then atG dts a (dtsAt t.f0 (valG t.f1) i) ((valG t.f1).drop i) else a), 0)
  | 0, i, a, h, ha => by
    have e2 : (entsR t).length = tmN t := by simp [entsR]
    have hd : (valG t.f1).drop i = [] := List.drop_of_length_le (by show tmN t ≤ i; omega)
    refine Ev.step (f := fun _ => some ((if a = (i : Int) - 1 then atG dts a (dtsAt t.f0 (valG t.f1) i) ((valG t.f1).drop i) else a), 0)) (fun k => ?_) (Ev.now _)
    simp only [dioramaref09_At.l0]
    rw [e2, if_neg (by omega), hd]
    simp [atG]
  | d + 1, i, a, h, ha => by
    have e2 : (entsR t).length = tmN t := by simp [entsR]
    have hn := G.n
    have hi : i < tmN t := by omega
    have hd : (valG t.f1).drop i = rd (valG t.f1) i :: (valG t.f1).drop (i + 1) := by
      rw [List.drop_eq_getElem_cons (show i < (valG t.f1).length from hi)]
      simp [rd, List.getD_eq_getElem?_getD, List.getElem?_eq_getElem (show i < (valG t.f1).length from hi)]
    have ef : (entR t i).f0 = dtsAt t.f0 (valG t.f1) i := rfl
    by_cases hc : dtsAt t.f0 (valG t.f1) i ≤ dts
    · have ha2 : a = (i : Int) - 1 := by
        rcases ha with h1 | ⟨_, _, h3⟩
        · exact h1
        · have := h3 i hi (by omega); omega
      have ih := rat_l0 G (dts := dts) d (i + 1) (i : Int) (by omega) (.inl (by omega))
      rw [if_pos (by omega)] at ih
      rw [if_pos ha2, hd, atG, if_neg (by omega), ha2, show (i : Int) - 1 + 1 = (i : Int) by omega, ← dtsAt_next (show i < (valG t.f1).length from hi)]
      refine Ev.step (fun k => ?_) ih
      simp only [dioramaref09_At.l0]
      rw [e2, if_pos (by omega), if_pos (by omega), rdR_ents hi, ef, if_pos hc, w_next (by omega)]
    · have hup : ∀ j, j < tmN t → i ≤ j → dtsAt t.f0 (valG t.f1) j > dts := fun j hj hij => by
        have := dts_mono G hij (by omega)
        omega
      have ih := rat_l0 G (dts := dts) d (i + 1) a (by omega) (.inr ⟨by omega, by rcases ha with h1 | ⟨_, h2, _⟩ <;> omega, fun j hj hij => hup j hj (by omega)⟩)
      rw [if_neg (by rcases ha with h1 | ⟨_, h2, _⟩ <;> omega)] at ih
      have ez : (if a = (i : Int) - 1 then atG dts a (dtsAt t.f0 (valG t.f1) i) ((valG t.f1).drop i) else a) = a := by
        split
        · rw [at_stop (by omega)]
        · rfl
      rw [ez]
      refine Ev.step (fun k => ?_) ih
      simp only [dioramaref09_At.l0]
      rw [e2, if_pos (by omega), if_pos (by omega), rdR_ents hi, ef, if_neg hc, w_next (by omega)]
theorem rat_ev {t : S27} (hs : smallB t = true) (dts : Int) : Ev (fun k => dioramaref09_At.f k t.f0 t.f1 t.f2 t.f3 t.f4 t.f5 t.f6 t.f7 t.f8 t.f9 t.f10 dts) (atF t dts) := by
  have e0 : dioramaref09_Expand.f t.f0 t.f1 t.f2 t.f3 t.f4 t.f5 t.f6 t.f7 t.f8 t.f9 t.f10 = some (if chkV t = 0 then entsR t else [], chkV t) := if_pos hs
  unfold dioramaref09_At.f
  rw [e0]
  simp only [Option.bind_some]
  by_cases h0 : chkV t = 0
  · have G := good_of h0
    refine Ev.congr (fun k => if_pos h0) ?_
    rw [if_pos h0, show atF t dts = (atV t dts, 0) from if_pos h0]
    have := rat_l0 G (dts := dts) (tmN t) 0 (-1) (by omega) (.inl rfl)
    rw [if_pos (by rfl)] at this
    exact this
  · rw [show atF t dts = (0, chkV t) from if_neg h0]
    exact Ev.congr (fun k => if_neg h0) (Ev.now _)
end Go.Proofs.Ytmbhafgnmdfjhaa.PureT
namespace Go.Proofs.Ytmbhafgnmdfjhaa.PureT
open Go.RowKit Go.Proofs.Ytmbhafgnmdfjhaa.QTab Go.Proofs.YtmbhafgnmdfjhaaW.PrintWords Go.Proofs.YtmbhafgnmdfjhaaW.PrintMore Go.Proofs.YtmbhafgnmdfjhaaV
theorem bsp_l0 {l : List Int} (hl : l.length ≤ 1000) (hs : ∀ i j : Nat, i < j → j < l.length → rd l i < rd l j) (x : Int) : ∀ (m lo hi : Nat), hi - lo ≤ m → lo ≤ hi → hi ≤ l.length → (∀ i : Nat, i < lo → rd l i < x) → (∀ i : Nat, hi ≤ i → i < l.length → x ≤ rd l i) → ∃ p : Nat, (p ≤ l.length ∧ (∀ i : Nat, i < p → rd l i < x) ∧ (∀ i : Nat, p ≤ i → i < l.length → x ≤ rd l i)) ∧ Ev (fun k => slices_BinarySearch_int_int.l0 k l x (l.length : Int) (lo : Int) (hi : Int)) ((p : Int), decide (x ∈ l)) := by
  intro m
  induction m with
  | zero =>
    intro lo hi hm h1 h2 ha hb
    have he : lo = hi := by omega
    subst he
    refine ⟨lo, ⟨h2, ha, hb⟩, ?_⟩
    by_cases h3 : lo < l.length
    · by_cases h4 : rd l (lo : Int) = x
      · have hx : decide (x ∈ l) = true := decide_eq_true (by rw [← h4]; exact rd_mem h3)
        rw [hx]
        refine Ev.step (f := fun _ => some ((lo : Int), true)) (fun k => ?_) (Ev.now _)
        simp only [slices_BinarySearch_int_int.l0]
        rw [if_neg (by omega), if_pos (by omega), if_pos (by omega), if_pos (by omega), if_pos h4]
      · have hx : decide (x ∈ l) = false := decide_eq_false (fun hm => by
          obtain ⟨i, hi, hxi⟩ := List.getElem_of_mem hm
          have hr : rd l (i : Int) = x := by rw [← hxi]; simp [rd, List.getD_eq_getElem?_getD, List.getElem?_eq_getElem hi]
          rcases Nat.lt_trichotomy i lo with h | h | h
          · have := ha i h; omega
          · subst h; exact h4 hr
          · have h5 := hs lo i h hi
            have h6 := hb lo (Nat.le_refl _) h3
            omega)
        rw [hx]
        refine Ev.step (f := fun _ => some ((lo : Int), false)) (fun k => ?_) (Ev.now _)
        simp only [slices_BinarySearch_int_int.l0]
        rw [if_neg (by omega), if_pos (by omega), if_pos (by omega), if_pos (by omega), if_neg h4]
        unfold slices_isNaN_int.f
        simp
    · have hx : decide (x ∈ l) = false := decide_eq_false (fun hm => by
        obtain ⟨i, hi, hxi⟩ := List.getElem_of_mem hm
        have hr : rd l (i : Int) = x := by rw [← hxi]; simp [rd, List.getD_eq_getElem?_getD, List.getElem?_eq_getElem hi]
        have := ha i (by omega)
        omega)
      rw [hx]
      refine Ev.step (f := fun _ => some ((lo : Int), false)) (fun k => ?_) (Ev.now _)
      simp only [slices_BinarySearch_int_int.l0]
      rw [if_neg (by omega), if_neg (by omega)]
  | succ m ih =>
    intro lo hi hm h1 h2 ha hb
    by_cases he : lo = hi
    · exact ih lo hi (by omega) h1 h2 ha hb
    · obtain ⟨h, hh⟩ : ∃ h : Nat, h = (lo + hi) / 2 := ⟨_, rfl⟩
      have hw : wrap64 ((IntKind.u64.wrap (wrap64 ((lo : Int) + (hi : Int)))) / 2) = (h : Int) := by
        have e1 : wrap64 ((lo : Int) + (hi : Int)) = ((lo + hi : Nat) : Int) := by unfold wrap64; omega
        rw [e1, IntKind.wrap_u64]
        have e2 : ((lo + hi : Nat) : Int) % 18446744073709551616 = ((lo + hi : Nat) : Int) := by omega
        rw [e2]; unfold wrap64; omega
      by_cases hlt : rd l (h : Int) < x
      · obtain ⟨p, hq, hp⟩ := ih (h + 1) hi (by omega) (by omega) h2 (fun i hi' => by
          by_cases hih : i = h
          · subst hih; exact hlt
          · have := hs i h (by omega) (by omega); omega) hb
        refine ⟨p, hq, Ev.step (fun k => ?_) hp⟩
        simp only [slices_BinarySearch_int_int.l0]
        rw [if_pos (by omega), hw, if_pos (by omega), if_pos (by omega), less_f, Option.bind_some, if_pos (decide_eq_true hlt), w_next (by omega)]
      · obtain ⟨p, hq, hp⟩ := ih lo h (by omega) (by omega) (by omega) ha (fun i hi' hil => by
          by_cases hih : i = h
          · subst hih; omega
          · have := hs h i (by omega) hil; omega)
        refine ⟨p, hq, Ev.step (fun k => ?_) hp⟩
        simp only [slices_BinarySearch_int_int.l0]
        rw [if_pos (by omega), hw, if_pos (by omega), if_pos (by omega), less_f, Option.bind_some, if_neg (by simpa using hlt)]
theorem bsp_ev {l : List Int} (hl : l.length ≤ 1000) (hs : ∀ i j : Nat, i < j → j < l.length → rd l i < rd l j) (x : Int) : ∃ p : Nat, (p ≤ l.length ∧ (∀ i : Nat, i < p → rd l i < x) ∧ (∀ i : Nat, p ≤ i → i < l.length → x ≤ rd l i)) ∧ Ev (fun k => slices_BinarySearch_int_int.f k l x) ((p : Int), decide (x ∈ l)) :=
  bsp_l0 hl hs x l.length 0 l.length (by omega) (by omega) (Nat.le_refl _) (fun i hi => absurd hi (Nat.not_lt_zero _)) (fun i h1 h2 => by omega)
end Go.Proofs.Ytmbhafgnmdfjhaa.PureT
namespace Go.Proofs.Ytmbhafgnmdfjhaa.PureT
open Go.RowKit Go.Proofs.Ytmbhafgnmdfjhaa.QTab Go.Proofs.YtmbhafgnmdfjhaaW.PrintWords Go.Proofs.YtmbhafgnmdfjhaaW.PrintMore Go.Proofs.YtmbhafgnmdfjhaaV
def bfG (f : Nat → Bool) : Nat → Int
  | 0 => if f 0 = true then 0 else -1
  | i + 1 => if f (i + 1) = true then ((i + 1 : Nat) : Int) else bfG f i
theorem bfG_yes {f : Nat → Bool} : ∀ {i : Nat}, f i = true → bfG f i = i
  | 0, h => by rw [bfG, if_pos h]; rfl
  | i + 1, h => by rw [bfG, if_pos h]
theorem bfG_at {f : Nat → Bool} {s : Nat} (hs : f s = true) : ∀ d, (∀ j, s < j → j ≤ s + d → f j = false) → bfG f (s + d) = s
  | 0, _ => bfG_yes hs
  | d + 1, h => by
    rw [show s + (d + 1) = (s + d) + 1 by omega, bfG, if_neg (by rw [h (s + d + 1) (by omega) (by omega)]; simp)]
    exact bfG_at hs d (fun j h1 h2 => h j h1 (by omega))
theorem bfG_no {f : Nat → Bool} : ∀ i, (∀ j, j ≤ i → f j = false) → bfG f i = -1
  | 0, h => by rw [bfG, if_neg (by rw [h 0 (by omega)]; simp)]
  | i + 1, h => by rw [bfG, if_neg (by rw [h (i + 1) (by omega)]; simp)]; exact bfG_no i (fun j hj => h j (by omega))
def syF (t : S27) (i : Nat) : Bool := t.f4 || fndF t i
def bfF (t : S27) (i : Int) : Int × Int := if chkV t = 0 then (if i < 0 ∨ (tmN t : Int) ≤ i then (0, 1) else (bfG (syF t) i.toNat, 0)) else (0, chkV t)
/-! the program -/
theorem bf_bs {t : S27} (G : GoodT t) (h4 : t.f4 = false) {i p : Nat} (hp : p ≤ t.f3.length) (h1 : ∀ j : Nat, j < p → rd t.f3 j < (i : Int) + 1) (h2 : ∀ j : Nat, p ≤ j → j < t.f3.length → (i : Int) + 1 ≤ rd t.f3 j) :
    (fndF t i = true → p < t.f3.length ∧ rd t.f3 p = (i : Int) + 1) ∧ (fndF t i = false → (p = 0 → bfG (syF t) i = -1) ∧ (0 < p → bfG (syF t) i = rd t.f3 ((p - 1 : Nat) : Int) - 1)) := by
  have hsy := sync_rng (Int.le_refl 0) G.sy
  have hinc := (sync_inc t.f3 0 G.sy).2
  have hmem : ∀ j : Nat, fndF t j = true → ∃ q : Nat, q < t.f3.length ∧ rd t.f3 (q : Int) = (j : Int) + 1 := by
    intro j hj
    have hj := of_decide_eq_true hj
    obtain ⟨q, hq, hx⟩ := List.getElem_of_mem hj
    exact ⟨q, hq, by rw [← hx]; simp [rd, List.getD_eq_getElem?_getD, List.getElem?_eq_getElem hq]⟩
  have es : ∀ j, syF t j = fndF t j := fun j => by rw [syF, h4, Bool.false_or]
  refine ⟨fun hf => ?_, fun hf => ⟨fun h0 => ?_, fun h0 => ?_⟩⟩
  · obtain ⟨q, hq, hx⟩ := hmem i hf
    have : q = p := by
      rcases Nat.lt_trichotomy q p with h | h | h
      · have := h1 q h; omega
      · exact h
      · have h5 := hinc p q h hq
        have h6 := h2 p (Nat.le_refl _) (by omega)
        omega
    rw [this] at hx hq
    exact ⟨hq, hx⟩
  · refine bfG_no i (fun j hj => ?_)
    rw [es]
    cases hf2 : fndF t j with
    | false => rfl
    | true =>
      obtain ⟨q, hq, hx⟩ := hmem j hf2
      have := h2 q (by omega) hq
      have hji : j = i := by omega
      rw [hji, hf] at hf2
      cases hf2
  · obtain ⟨s0, hs0, hs1⟩ : ∃ s0 : Nat, rd t.f3 ((p - 1 : Nat) : Int) = (s0 : Int) + 1 ∧ s0 < tmN t := by
      have := hsy _ (rd_mem (l := t.f3) (i := p - 1) (by omega))
      exact ⟨(rd t.f3 ((p - 1 : Nat) : Int) - 1).toNat, by omega, by omega⟩
    have hle := h1 (p - 1) (by omega)
    have hf1 : syF t s0 = true := by
      rw [es]
      refine decide_eq_true ?_
      rw [← hs0]
      exact rd_mem (by omega)
    have := bfG_at (f := syF t) hf1 (i - s0) (fun j hj hj2 => by
      rw [es]
      cases hf2 : fndF t j with
      | false => rfl
      | true =>
        obtain ⟨q, hq, hx⟩ := hmem j hf2
        by_cases hqp : q < p
        · have : q ≤ p - 1 := by omega
          by_cases hq1 : q = p - 1
          · rw [hq1, hs0] at hx; omega
          · have h9 := hinc q (p - 1) (by omega) (by omega)
            omega
        · have := h2 q (by omega) hq
          have hji : j = i := by omega
          rw [hji, hf] at hf2
          cases hf2)
    rw [show s0 + (i - s0) = i by omega] at this
    rw [this, hs0]
    omega
theorem bf_j0 {t : S27} (G : GoodT t) (L : Lens t) {i : Nat} (hi : i < tmN t) : Ev (fun k => table_Before.j0 k (i : Int) false t.f0 t.f1 t.f2 t.f3 t.f4 t.f5 t.f6 t.f7 t.f8 t.f9 t.f10) (bfG (syF t) i, 0) := by
  have hn := G.n
  have l3 := L.l3
  cases h4 : t.f4 with
  | true =>
    refine Ev.step (f := fun _ => some ((i : Int), 0)) (fun k => ?_) (by rw [bfG_yes (show syF t i = true by rw [syF, h4, Bool.true_or])]; exact Ev.now _)
    rw [table_Before.j0, if_neg (by simp), if_pos rfl]
  | false =>
    obtain ⟨p, ⟨hp, h1, h2⟩, hbs⟩ := bsp_ev l3 (sync_inc t.f3 0 G.sy).2 ((i : Int) + 1)
    have w1 : wrap64 ((i : Int) + 1) = (i : Int) + 1 := by unfold wrap64; omega
    obtain ⟨hA, hB⟩ := bf_bs G h4 hp h1 h2
    have hsy := sync_rng (Int.le_refl 0) G.sy
    refine Ev.step (fun k => ?_) (Ev.bind hbs (f := fun k bt321 => (if bt321.2=true then (if bt321.1 < 0 then (some ((-1),0)) else (if 0≤bt321.1 then (if bt321.1 < (t.f3.length:Int) then (some (wrap64 ((rd t.f3 bt321.1) - 1),0)) else (none)) else (none))) else (if (wrap64 (bt321.1 - 1)) < 0 then (some ((-1),0)) else (if 0≤(wrap64 (bt321.1 - 1)) then (if (wrap64 (bt321.1 - 1)) < (t.f3.length:Int) then (some (wrap64 ((rd t.f3 (wrap64 (bt321.1 - 1))) - 1),0)) else (none)) else (none))))) ?_)
    · rw [table_Before.j0, if_neg (by simp), if_neg (by simp), w1]
    · cases hf : decide ((i : Int) + 1 ∈ t.f3) with
      | true =>
        obtain ⟨a1, a2⟩ := hA hf
        refine Ev.congr (f := fun _ => some ((i : Int), 0)) (fun k => ?_) (by rw [bfG_yes (show syF t i = true by rw [syF, show fndF t i = true from hf, Bool.or_true])]; exact Ev.now _)
        rw [if_pos rfl, if_neg (by omega), if_pos (by omega), if_pos (by omega), a2, show wrap64 ((i : Int) + 1 - 1) = (i : Int) by unfold wrap64; omega]
      | false =>
        obtain ⟨b1, b2⟩ := hB hf
        by_cases hp0 : p = 0
        · rw [b1 hp0]
          refine Ev.congr (f := fun _ => some (-1, 0)) (fun k => ?_) (Ev.now _)
          rw [if_neg (by simp), if_pos (by unfold wrap64; omega)]
        · have ew : wrap64 ((p : Int) - 1) = ((p - 1 : Nat) : Int) := by unfold wrap64; omega
          have hr := hsy _ (rd_mem (l := t.f3) (i := p - 1) (by omega))
          rw [b2 (by omega)]
          refine Ev.congr (f := fun _ => some (rd t.f3 ((p - 1 : Nat) : Int) - 1, 0)) (fun k => ?_) (Ev.now _)
          rw [if_neg (by simp), ew, if_neg (by omega), if_pos (by omega), if_pos (by omega), show wrap64 (rd t.f3 ((p - 1 : Nat) : Int) - 1) = rd t.f3 ((p - 1 : Nat) : Int) - 1 by unfold wrap64; omega]
theorem bf_ev {t : S27} (hs : smallB t = true) (i : Int) : Ev (fun k => table_Before.f k t.f0 t.f1 t.f2 t.f3 t.f4 t.f5 t.f6 t.f7 t.f8 t.f9 t.f10 i) (bfF t i) := by
  obtain ⟨L, -, -⟩ := lens_of hs
  unfold table_Before.f
  rw [chk_f hs]
  simp only [Option.bind_some]
  by_cases h0 : chkV t = 0
  · have G := good_of h0
    refine Ev.congr (fun k => if_pos h0) ?_
    by_cases h1 : i < 0
    · rw [show bfF t i = (0, 1) by rw [bfF, if_pos h0, if_pos (.inl h1)]]
      refine Ev.congr (fun k => if_pos h1) (Ev.step (f := fun _ => some (0, 1)) (fun k => ?_) (Ev.now _))
      rw [table_Before.j0, if_pos rfl]
    · refine Ev.congr (fun k => if_neg h1) (Ev.bind (cnt_ev L) ?_)
      rw [G.tot]
      by_cases h2 : (tmN t : Int) ≤ i
      · rw [show bfF t i = (0, 1) by rw [bfF, if_pos h0, if_pos (.inr h2)], decide_eq_true (show i ≥ (tmN t : Int) from h2)]
        refine Ev.step (f := fun _ => some (0, 1)) (fun k => ?_) (Ev.now _)
        rw [table_Before.j0, if_pos rfl]
      · obtain ⟨m, rfl⟩ : ∃ m : Nat, i = (m : Int) := ⟨i.toNat, by omega⟩
        rw [show bfF t (m : Int) = (bfG (syF t) m, 0) by rw [bfF, if_pos h0, if_neg (by omega), Int.toNat_natCast], decide_eq_false (show ¬ ((m : Int) ≥ (tmN t : Int)) from h2)]
        exact bf_j0 G L (by omega)
  · rw [show bfF t i = (0, chkV t) by rw [bfF, if_neg h0]]
    exact Ev.congr (fun k => if_neg h0) (Ev.now _)
/-! the document -/
theorem rbf_l0 {t : S27} (G : GoodT t) : ∀ i : Nat, i < tmN t → Ev (fun k => dioramaref09_Before.l0 k (i : Int) (entsR t)) (bfG (syF t) i, 0)
  | i, hi => by
    have e2 : (entsR t).length = tmN t := by simp [entsR]
    have hn := G.n
    have es : (entR t i).f6 = syF t i := rfl
    cases hf : syF t i with
    | true =>
      rw [bfG_yes hf]
      refine Ev.step (f := fun _ => some ((i : Int), 0)) (fun k => ?_) (Ev.now _)
      rw [dioramaref09_Before.l0, e2, if_pos (by omega), if_pos (by omega), if_pos (by omega), rdR_ents hi, es, if_pos hf]
    | false =>
      cases i with
      | zero =>
        rw [bfG, if_neg (by rw [hf]; simp)]
        have hz : Ev (fun k => dioramaref09_Before.l0 k (-1) (entsR t)) ((-1 : Int), (0 : Int)) := by
          refine Ev.step (f := fun _ => some ((-1 : Int), 0)) (fun k => ?_) (Ev.now _)
          rw [dioramaref09_Before.l0, if_neg (by omega)]
        refine Ev.step (fun k => ?_) hz
        rw [dioramaref09_Before.l0, e2, if_pos (by omega), if_pos (by omega), if_pos (by omega), rdR_ents hi, es, if_neg (by rw [hf]; simp), show wrap64 (((0 : Nat) : Int) - 1) = -1 by unfold wrap64; omega]
      | succ i =>
        rw [bfG, if_neg (by rw [hf]; simp)]
        refine Ev.step (fun k => ?_) (rbf_l0 G i (by omega))
        rw [dioramaref09_Before.l0, e2, if_pos (by omega), if_pos (by omega), if_pos (by omega), rdR_ents hi, es, if_neg (by rw [hf]; simp), show wrap64 (((i + 1 : Nat) : Int) - 1) = (i : Int) by unfold wrap64; omega]
theorem rbf_ev {t : S27} (hs : smallB t = true) (i : Int) : Ev (fun k => dioramaref09_Before.f k t.f0 t.f1 t.f2 t.f3 t.f4 t.f5 t.f6 t.f7 t.f8 t.f9 t.f10 i) (bfF t i) := by
  have e0 : dioramaref09_Expand.f t.f0 t.f1 t.f2 t.f3 t.f4 t.f5 t.f6 t.f7 t.f8 t.f9 t.f10 = some (if chkV t = 0 then entsR t else [], chkV t) := if_pos hs
  unfold dioramaref09_Before.f
  rw [e0]
  simp only [Option.bind_some]
  by_cases h0 : chkV t = 0
  · have G := good_of h0
    have e2 : (entsR t).length = tmN t := by simp [entsR]
    refine Ev.congr (fun k => if_pos h0) ?_
    rw [if_pos h0, e2]
    by_cases h1 : i < 0
    · rw [show bfF t i = (0, 1) by rw [bfF, if_pos h0, if_pos (.inl h1)]]
      refine Ev.congr (fun k => if_pos h1) (Ev.step (f := fun _ => some (0, 1)) (fun k => ?_) (Ev.now _))
      rw [dioramaref09_Before.j0, if_pos rfl]
    · refine Ev.congr (fun k => if_neg h1) ?_
      by_cases h2 : (tmN t : Int) ≤ i
      · rw [show bfF t i = (0, 1) by rw [bfF, if_pos h0, if_pos (.inr h2)], decide_eq_true (show i ≥ (tmN t : Int) from h2)]
        refine Ev.step (f := fun _ => some (0, 1)) (fun k => ?_) (Ev.now _)
        rw [dioramaref09_Before.j0, if_pos rfl]
      · obtain ⟨m, rfl⟩ : ∃ m : Nat, i = (m : Int) := ⟨i.toNat, by omega⟩
        rw [show bfF t (m : Int) = (bfG (syF t) m, 0) by rw [bfF, if_pos h0, if_neg (by omega), Int.toNat_natCast], decide_eq_false (show ¬ ((m : Int) ≥ (tmN t : Int)) from h2)]
        refine Ev.step (fun k => ?_) (rbf_l0 G m (by omega))
        rw [dioramaref09_Before.j0, if_neg (by simp)]
  · rw [show bfF t i = (0, chkV t) by rw [bfF, if_neg h0]]
    exact Ev.congr (fun k => if_neg h0) (Ev.now _)
end Go.Proofs.Ytmbhafgnmdfjhaa.PureT
namespace Go.Proofs.Ytmbhafgnmdfjhaa.PureT
open Go.RowKit Go.Proofs.Ytmbhafgnmdfjhaa.QTab Go.Proofs.YtmbhafgnmdfjhaaW.PrintWords Go.Proofs.YtmbhafgnmdfjhaaW.PrintMore Go.Proofs.YtmbhafgnmdfjhaaV
def chuF (t : S27) (c : Int) : Int × Int × Int × Int × Int := if chkV t = 0 then (if c < 0 ∨ (t.f8.length : Int) ≤ c then (0, 0, 0, 0, 1) else (preL (msL t) c.toNat, rd (msL t) c.toNat, rd t.f8 c.toNat, plW t 0 (preL (msL t) c.toNat).toNat (rd (msL t) c.toNat).toNat, 0)) else (0, 0, 0, 0, chkV t)
/-- How many of the first i samples lie before chunk c, and in it. -/
def befN (t : S27) (c i : Nat) : Nat := min i (preL (msL t) c).toNat
def inN (t : S27) (c i : Nat) : Nat := min (i - (preL (msL t) c).toNat) (rd (msL t) c).toNat
theorem chu_step {t : S27} (G : GoodT t) {c i : Nat} (hc : c < t.f8.length) (hi : i < tmN t) :
    ((ckOf (msL t) i : Int) < c → befN t c (i + 1) = befN t c i + 1 ∧ inN t c (i + 1) = inN t c i ∧ inN t c i = 0) ∧
    ((ckOf (msL t) i : Int) = c → befN t c (i + 1) = befN t c i ∧ inN t c (i + 1) = inN t c i + 1 ∧ i = (preL (msL t) c).toNat + inN t c i) ∧
    ((c : Int) < (ckOf (msL t) i : Int) → befN t c (i + 1) = befN t c i ∧ inN t c (i + 1) = inN t c i) := by
  have hnn : ∀ x ∈ msL t, 0 ≤ x := fun x hx => (G.ms x hx).1
  obtain ⟨k1, k2, k3⟩ := ck_facts G hi
  have hm := hnn _ (rd_mem (l := msL t) (i := c) (by rw [msL_len]; exact hc))
  have hs := preL_next (L := msL t) (c := c) (by rw [msL_len]; omega)
  have p0 := preL_nn hnn c
  unfold befN inN
  refine ⟨fun h => ?_, fun h => ?_, fun h => ?_⟩
  · have := preL_mono hnn (show ckOf (msL t) i + 1 ≤ c by omega)
    refine ⟨by omega, by omega, by omega⟩
  · have hce : ckOf (msL t) i = c := by omega
    rw [hce] at k2 k3
    refine ⟨by omega, by omega, by omega⟩
  · have := preL_mono hnn (show c + 1 ≤ ckOf (msL t) i by omega)
    refine ⟨by omega, by omega⟩
theorem chu_end {t : S27} (G : GoodT t) {c : Nat} (hc : c < t.f8.length) : ((befN t c (tmN t) : Nat) : Int) = preL (msL t) c ∧ ((inN t c (tmN t) : Nat) : Int) = rd (msL t) c := by
  have hnn : ∀ x ∈ msL t, 0 ≤ x := fun x hx => (G.ms x hx).1
  obtain ⟨p0, p1⟩ := pre_le G (show c ≤ t.f8.length by omega)
  obtain ⟨p2, p3⟩ := pre_le G (show c + 1 ≤ t.f8.length by omega)
  have hm := hnn _ (rd_mem (l := msL t) (i := c) (by rw [msL_len]; exact hc))
  have hs := preL_next (L := msL t) (c := c) (by rw [msL_len]; omega)
  unfold befN inN
  omega
end Go.Proofs.Ytmbhafgnmdfjhaa.PureT
namespace Go.Proofs.Ytmbhafgnmdfjhaa.PureT
open Go.RowKit Go.Proofs.Ytmbhafgnmdfjhaa.QTab Go.Proofs.YtmbhafgnmdfjhaaW.PrintWords Go.Proofs.YtmbhafgnmdfjhaaW.PrintMore Go.Proofs.YtmbhafgnmdfjhaaV
theorem chu_l1 {t : S27} (G : GoodT t) (L : Lens t) {c a M : Nat} (hc : c < t.f8.length) (ha : a + M ≤ tmN t) : ∀ d n, n + d = M →
    Ev (fun k => table_Chunk.l1 k (c : Int) (a : Int) (M : Int) (plW t 0 a n) ((a + n : Nat) : Int) t.f0 t.f1 t.f2 t.f3 t.f4 t.f5 t.f6 t.f7 t.f8 t.f9 t.f10) ((a : Int), (M : Int), rd t.f8 c, plW t 0 a M, 0)
  | 0, n, h => by
    have hn := G.n
    have l8 := L.l8
    refine Ev.step (f := fun _ => some ((a : Int), (M : Int), rd t.f8 c, plW t 0 a M, 0)) (fun k => ?_) (Ev.now _)
    rw [table_Chunk.l1, if_neg (by unfold wrap64; omega), if_pos (by omega), if_pos (by omega), show n = M by omega]
  | d + 1, n, h => by
    have hn := G.n
    refine Ev.step (fun k => ?_) (chu_l1 G L hc ha d (n + 1) (by omega))
    rw [table_Chunk.l1, if_pos (by unfold wrap64; omega), size_f G (show a + n < tmN t by omega), Option.bind_some, w_next (by omega)]
    rfl
theorem chu_l0 {t : S27} (G : GoodT t) (L : Lens t) {c : Nat} (hc : c < t.f8.length) : ∀ d j, j + d = c →
    Ev (fun k => table_Chunk.l0 k (c : Int) (preL (msL t) j) 0 (c : Int) (j : Int) t.f0 t.f1 t.f2 t.f3 t.f4 t.f5 t.f6 t.f7 t.f8 t.f9 t.f10) (preL (msL t) c, rd (msL t) c, rd t.f8 c, plW t 0 (preL (msL t) c).toNat (rd (msL t) c).toNat, 0)
  | 0, j, h => by
    have hn := G.n
    rw [Nat.add_zero] at h
    subst h
    have hm := (G.ms _ (rd_mem (l := msL t) (i := j) (by rw [msL_len]; exact hc))).1
    obtain ⟨p0, p1⟩ := pre_le G (show j ≤ t.f8.length by omega)
    obtain ⟨p2, p3⟩ := pre_le G (show j + 1 ≤ t.f8.length by omega)
    have hs := preL_next (L := msL t) (c := j) (by rw [msL_len]; omega)
    have h1 := chu_l1 G L (a := (preL (msL t) j).toNat) (M := (rd (msL t) j).toNat) hc (by omega) (rd (msL t) j).toNat 0 (by omega)
    rw [Nat.add_zero, show (((preL (msL t) j).toNat : Nat) : Int) = preL (msL t) j by omega, show (((rd (msL t) j).toNat : Nat) : Int) = rd (msL t) j by omega] at h1
    refine Ev.step (f := fun k => (table_inChunk.f k t.f0 t.f1 t.f2 t.f3 t.f4 t.f5 t.f6 t.f7 t.f8 t.f9 t.f10 (j : Int)).bind fun v => table_Chunk.l1 k (j : Int) (preL (msL t) j) v 0 (preL (msL t) j) t.f0 t.f1 t.f2 t.f3 t.f4 t.f5 t.f6 t.f7 t.f8 t.f9 t.f10) (fun k => ?_) (Ev.bind (ic_ev G L hc) h1)
    rw [table_Chunk.l0, if_neg (by omega)]
  | d + 1, j, h => by
    have hn := G.n
    have l8 := L.l8
    obtain ⟨p0, p1⟩ := pre_le G (show j ≤ t.f8.length by omega)
    obtain ⟨p2, p3⟩ := pre_le G (show j + 1 ≤ t.f8.length by omega)
    have hs := preL_next (L := msL t) (c := j) (by rw [msL_len]; omega)
    have ew : wrap64 (preL (msL t) j + rd (msL t) j) = preL (msL t) (j + 1) := by rw [← hs]; unfold wrap64; omega
    have ih := chu_l0 G L hc d (j + 1) (by omega)
    rw [← ew] at ih
    refine Ev.step (f := fun k => (table_inChunk.f k t.f0 t.f1 t.f2 t.f3 t.f4 t.f5 t.f6 t.f7 t.f8 t.f9 t.f10 (j : Int)).bind fun v => table_Chunk.l0 k (c : Int) (wrap64 (preL (msL t) j + v)) 0 (c : Int) ((j + 1 : Nat) : Int) t.f0 t.f1 t.f2 t.f3 t.f4 t.f5 t.f6 t.f7 t.f8 t.f9 t.f10) (fun k => ?_) (Ev.bind (ic_ev G L (by omega)) ih)
    rw [table_Chunk.l0, if_pos (by omega), w_next (by omega)]
theorem chu_ev {t : S27} (hs : smallB t = true) (c : Int) : Ev (fun k => table_Chunk.f k t.f0 t.f1 t.f2 t.f3 t.f4 t.f5 t.f6 t.f7 t.f8 t.f9 t.f10 c) ((chuF t c).1, (chuF t c).2.1, (chuF t c).2.2.1, (chuF t c).2.2.2.1, (chuF t c).2.2.2.2) := by
  obtain ⟨L, -, -⟩ := lens_of hs
  unfold table_Chunk.f
  rw [chk_f hs]
  simp only [Option.bind_some]
  by_cases h0 : chkV t = 0
  · have G := good_of h0
    refine Ev.congr (fun k => if_pos h0) ?_
    by_cases h1 : c < 0
    · rw [show chuF t c = (0, 0, 0, 0, 1) by rw [chuF, if_pos h0, if_pos (.inl h1)]]
      refine Ev.congr (fun k => if_pos h1) (Ev.step (f := fun _ => some (0, 0, 0, 0, 1)) (fun k => ?_) (Ev.now _))
      rw [table_Chunk.j0, if_pos rfl]
    · refine Ev.congr (fun k => if_neg h1) ?_
      by_cases h2 : (t.f8.length : Int) ≤ c
      · rw [show chuF t c = (0, 0, 0, 0, 1) by rw [chuF, if_pos h0, if_pos (.inr h2)], decide_eq_true (show c ≥ (t.f8.length : Int) from h2)]
        refine Ev.step (f := fun _ => some (0, 0, 0, 0, 1)) (fun k => ?_) (Ev.now _)
        rw [table_Chunk.j0, if_pos rfl]
      · obtain ⟨m, rfl⟩ : ∃ m : Nat, c = (m : Int) := ⟨c.toNat, by omega⟩
        rw [show chuF t (m : Int) = (preL (msL t) m, rd (msL t) m, rd t.f8 m, plW t 0 (preL (msL t) m).toNat (rd (msL t) m).toNat, 0) by rw [chuF, if_pos h0, if_neg (by omega), Int.toNat_natCast], decide_eq_false (show ¬ ((m : Int) ≥ (t.f8.length : Int)) from h2)]
        have h := chu_l0 G L (show m < t.f8.length by omega) m 0 (by omega)
        rw [preL_zero] at h
        refine Ev.step (fun k => ?_) h
        rw [table_Chunk.j0, if_neg (by simp)]
        rfl
  · rw [show chuF t c = (0, 0, 0, 0, chkV t) by rw [chuF, if_neg h0]]
    exact Ev.congr (fun k => if_neg h0) (Ev.now _)
end Go.Proofs.Ytmbhafgnmdfjhaa.PureT
namespace Go.Proofs.Ytmbhafgnmdfjhaa.QTab
open Go.Proofs.Ytmbhafgnmdfjhaa.PureT Go.RowKit Go.Proofs.YtmbhafgnmdfjhaaW.PrintWords Go.Proofs.YtmbhafgnmdfjhaaW.PrintLast Go.Proofs.YtmbhafgnmdfjhaaW.PrintMore Go.Proofs.YtmbhafgnmdfjhaaV
set_option linter.unusedVariables false
set_option linter.unusedSimpArgs false
theorem put4 {w : World} {g : Nat} {t : TypeId} {c0 c1 c2 c3 : Value} (h : w.heap[g]? = some (.cells #[c0, c1, c2, c3] t (0, 0))) (v0 v1 v2 v3 : Value) :
    ((((w.setCell ⟨g, 0, none⟩ v0).setCell ⟨g, 1, none⟩ v1).setCell ⟨g, 2, none⟩ v2).setCell ⟨g, 3, none⟩ v3).heap[g]? = some (.cells #[v0, v1, v2, v3] t (0, 0)) := by
  have h0 := blk_put (cs' := #[v0, c1, c2, c3]) h 0 v0 rfl
  generalize w.setCell ⟨g, 0, none⟩ v0 = w0 at h0 ⊢
  have h1 := blk_put (cs' := #[v0, v1, c2, c3]) h0 1 v1 rfl
  generalize w0.setCell ⟨g, 1, none⟩ v1 = w1 at h1 ⊢
  have h2 := blk_put (cs' := #[v0, v1, v2, c3]) h1 2 v2 rfl
  generalize w1.setCell ⟨g, 2, none⟩ v2 = w2 at h2 ⊢
  exact blk_put (cs' := #[v0, v1, v2, v3]) h2 3 v3 rfl
theorem bel4 {w0 w : World} {g : Nat} (h : Below w0.heap.size w0 w) (hg : w0.heap.size ≤ g) (v0 v1 v2 v3 : Value) :
    Below w0.heap.size w0 ((((w.setCell ⟨g, 0, none⟩ v0).setCell ⟨g, 1, none⟩ v1).setCell ⟨g, 2, none⟩ v2).setCell ⟨g, 3, none⟩ v3) :=
  below_set (below_set (below_set (below_set h hg) hg) hg) hg
def arr4 (a b c d : Int) : Array Value := #[.int .i64 a, .int .i64 b, .int .i64 c, .int .i64 d]
/-- A variable of four numbers, made behind the world w0. -/
structure A4 (w0 w : World) (g : Nat) (a b c d : Int) : Prop where
  k : w.heap[g]? = some (.cells (arr4 a b c d) 62 (0, 0))
  b : Below w0.heap.size w0 w
  ge : w0.heap.size ≤ g
theorem A4.cells {w0 w : World} {g : Nat} {a b c d : Int} (h : A4 w0 w g a b c d) : w.cell? ⟨g, 0, none⟩ = some (.int .i64 a) ∧ w.cell? ⟨g, 1, none⟩ = some (.int .i64 b) ∧ w.cell? ⟨g, 2, none⟩ = some (.int .i64 c) ∧ w.cell? ⟨g, 3, none⟩ = some (.int .i64 d) ∧ w.frozen? ⟨g, 0, none⟩ = false ∧ w.frozen? ⟨g, 1, none⟩ = false ∧ w.frozen? ⟨g, 3, none⟩ = false :=
  ⟨(blk_cell h.k 0).trans rfl, (blk_cell h.k 1).trans rfl, (blk_cell h.k 2).trans rfl, (blk_cell h.k 3).trans rfl, blk_frozen h.k 0, blk_frozen h.k 1, blk_frozen h.k 3⟩
theorem A4.drew {w0 w : World} {g : Nat} {a b c d : Int} (h : A4 w0 w g a b c d) : A4 w0 w.drew g a b c d := ⟨blk_drew h.k, below_drew h.b, h.ge⟩
theorem A4.put0 {w0 w : World} {g : Nat} {a b c d : Int} (h : A4 w0 w g a b c d) (x : Int) : A4 w0 (w.setCell ⟨g, 0, none⟩ (.int .i64 x)) g x b c d := ⟨blk_put h.k 0 _ rfl, below_set h.b h.ge, h.ge⟩
theorem A4.put1 {w0 w : World} {g : Nat} {a b c d : Int} (h : A4 w0 w g a b c d) (x : Int) : A4 w0 (w.setCell ⟨g, 1, none⟩ (.int .i64 x)) g a x c d := ⟨blk_put h.k 1 _ rfl, below_set h.b h.ge, h.ge⟩
theorem A4.put3 {w0 w : World} {g : Nat} {a b c d : Int} (h : A4 w0 w g a b c d) (x : Int) : A4 w0 (w.setCell ⟨g, 3, none⟩ (.int .i64 x)) g a b c x := ⟨blk_put h.k 3 _ rfl, below_set h.b h.ge, h.ge⟩
def arr4V (x : Int × Int × Int × Int × Int) : Value := .agg (arr4 x.1 x.2.1 x.2.2.1 x.2.2.2.1)
set_option maxRecDepth 100000 in
set_option maxHeartbeats 4000000 in
theorem rchunk_calls {w : World} (t : S27) (d : D27) (hr : R27 w t d) (h : smallB t = true) (c : Int) : Calls Try.prog 36 #[.agg (cells27 t d), .int .i64 c] w fun e w' => e = .returned (.tuple #[arr4V (chuF t c), .int .i64 (chuF t c).2.2.2.2]) ∧ Below w.heap.size w w' := by
  have HR := Aside0.mk hr
  have HS := Aside0.mk h
  clear hr h
  have hu := Try.underlying27
  have hu51 := Try.underlying51
  have hu62 := Try.underlying62
  unfold cells27
  go_enter Try.func36, Try.ntmps36
  obtain ⟨w1, hw1⟩ : ∃ wz, w.alloc (.cells (cells27 t d) 27) = wz := ⟨_, rfl⟩
  obtain ⟨g, hg⟩ : ∃ rz, w.heap.size = rz := ⟨_, rfl⟩
  obtain ⟨w2, hw2⟩ : ∃ wz, w1.alloc (.cells #[.int .i64 0, .int .i64 0, .int .i64 0, .int .i64 0] 62) = wz := ⟨_, rfl⟩
  obtain ⟨g4, hg4⟩ : ∃ rz, w1.heap.size = rz := ⟨_, rfl⟩
  have hb1 : Below w.heap.size w w1 := by rw [← hw1]; exact below_alloc (Below.refl _ _) _
  have hb2 : Below w1.heap.size w1 w2 := by rw [← hw2]; exact below_alloc (Below.refl _ _) _
  have hk1 : Box27 w1 g t d := by rw [← hw1, ← hg]; exact blk_new w _
  have S2 : Aside0 (St4 w w2 g t d) := ⟨⟨below_step hb1 hb2, hk1.below hb2, (HR.out.below hb1).below hb2⟩⟩
  have K4 : Aside0 (w2.heap[g4]? = some (.cells #[.int .i64 0, .int .i64 0, .int .i64 0, .int .i64 0] 62 (0, 0))) := ⟨by rw [← hw2, ← hg4]; exact blk_new w1 _⟩
  have GE : Aside0 (w.heap.size ≤ g4) := ⟨by have := hb1.size; omega⟩
  clear hb1 hb2 hk1
  unfold cells27 at hw1
  obtain ⟨q0, q1, q2, q3, q4, q5, q6, q7, q8, q9, q10⟩ := S2.out.k.cells
  go_wp2_with fail
  clear hw1 hg hw2 hg4
  obtain ⟨E, hE⟩ : ∃ z, chkV t = z := ⟨_, rfl⟩
  obtain ⟨l6, h6⟩ : ∃ z, (if chkV t = 0 then entsR t else []) = z := ⟨_, rfl⟩
  have HC2 := rexp_calls t d S2.out.r HS.out
  unfold cells27 at HC2
  rw [h6, hE] at HC2
  have HE := Aside0.mk hE
  have H6 := Aside0.mk h6
  clear hE h6
  refine HC2.mono ?_
  rintro e w3 ⟨v6, rfl, hv, hb⟩
  have S3 := Aside0.mk (S2.out.step hb)
  have K4b := Aside0.mk (blk_below K4.out hb)
  obtain ⟨A6, c6, rfl⟩ := Kd.S_slice hv
  have Q6 := Aside0.mk (Kd.S_reads' hv)
  have G4 := Aside0.mk (blk_lt K4.out)
  clear hb hv HC2 S2 K4 q0 q1 q2 q3 q4 q5 q6 q7 q8 q9 q10
  obtain ⟨a0, a1, a2, a3, f0, f1, f2, f3⟩ := bcells4 K4b.out
  obtain ⟨q0, q1, q2, q3, q4, q5, q6, q7, q8, q9, q10⟩ := S3.out.k.cells
  by_cases hz : E = 0
  · have hz1 : (E != 0) = false := bne_eq_false_iff_eq.mpr hz
    have h0 : chkV t = 0 := by rw [HE.out]; exact hz
    have hl : l6 = entsR t := by rw [← H6.out, if_pos h0]
    have HLN := Aside0.mk (show l6.length = tmN t by rw [hl]; simp [entsR])
    have HZ := Aside0.mk h0
    have HL := Aside0.mk hl
    clear h0 hz hl
    by_cases hi0 : c < 0
    · have hi1 : decide (c < 0) = true := decide_eq_true hi0
      have HX : Aside0 (chuF t c = (0, 0, 0, 0, 1)) := ⟨by rw [chuF, if_pos HZ.out, if_pos (.inl hi0)]⟩
      clear hi0
      go_wp2_with fail
      (try simp only [Exit.inBlock, Exit.then])
      refine bodyPost_ret (results_ct rfl _ _ g4 62 #[.int .i64 0, .int .i64 0, .int .i64 0, .int .i64 0] (0, 0) _ rfl (put4 K4b.out _ _ _ _) Try.underlying62 rfl (by kernel_rfl)) rfl ?_
      rw [HX.out]
      exact ⟨rfl, bel4 S3.out.b GE.out _ _ _ _⟩
    · have hi1 : decide (c < 0) = false := decide_eq_false hi0
      by_cases hi2 : (t.f8.length : Int) ≤ c
      · have hi3 : decide ((t.f8.length : Int) ≤ c) = true := decide_eq_true hi2
        have HX : Aside0 (chuF t c = (0, 0, 0, 0, 1)) := ⟨by rw [chuF, if_pos HZ.out, if_pos (.inr hi2)]⟩
        clear hi0 hi2
        go_wp2_with fail
        (try simp only [Exit.inBlock, Exit.then])
        refine bodyPost_ret (results_ct rfl _ _ g4 62 #[.int .i64 0, .int .i64 0, .int .i64 0, .int .i64 0] (0, 0) _ rfl (put4 K4b.out _ _ _ _) Try.underlying62 rfl (by kernel_rfl)) rfl ?_
        rw [HX.out]
        exact ⟨rfl, bel4 S3.out.b GE.out _ _ _ _⟩
      · obtain ⟨m, rfl⟩ : ∃ m : Nat, c = (m : Int) := ⟨c.toNat, by omega⟩
        have hi3 : decide ((t.f8.length : Int) ≤ (m : Int)) = false := decide_eq_false hi2
        have hm : m < t.f8.length := by omega
        have HM := Aside0.mk hm
        have HX : Aside0 (chuF t (m : Int) = (preL (msL t) m, rd (msL t) m, rd t.f8 m, plW t 0 (preL (msL t) m).toNat (rd (msL t) m).toNat, 0)) := ⟨by rw [chuF, if_pos HZ.out, if_neg (by omega), Int.toNat_natCast]⟩
        obtain ⟨ad8, e8p, x8⟩ := Kd.at_int S3.out.r.r8 (m : Int) (by omega) (by omega)
        rw [Int.toNat_natCast] at x8
        rw [e8p] at q8
        have hm2 : (m < t.f8.length) = True := eq_true hm
        have hm4 : (t.f8.length ≤ m) = False := eq_false (by omega)
        obtain ⟨pl, hpl⟩ : ∃ z, rd t.f8 (m : Int) = z := ⟨_, rfl⟩
        rw [hpl] at x8
        have HPL := Aside0.mk hpl
        clear hi0 hi2 hm e8p hpl
        go_wp2_with fail
        generalize hw4 : w3.alloc (.cells #[.int .i64 0, .int .i64 0, .int .i64 pl, .int .i64 0] 62) = w4
        generalize hg8 : w3.heap.size = g8
        have X4 : Aside0 (A4 w3 w4 g8 0 0 pl 0) := ⟨⟨by rw [← hw4, ← hg8]; exact blk_new w3 _, by rw [← hw4]; exact below_alloc (Below.refl _ _) _, by omega⟩⟩
        clear hw4 hg8
        have hn4 := (good_of HZ.out).n
        have HN4 := Aside0.mk hn4
        clear hn4 q0 q1 q2 q3 q4 q5 q6 q7 q8 q9 q10 x8 hi3 hm2 hm4
        obtain ⟨P, hP⟩ : ∃ z, (preL (msL t) m).toNat = z := ⟨_, rfl⟩
        have HP := Aside0.mk hP
        clear hP
        go_loopg [9] (tmN t + 1) (fun kq v9 w' => ∃ (i : Nat), v9 = .int .i64 (i : Int) ∧ Aside0 (kq = tmN t - i + 1) ∧ Aside0 (i ≤ tmN t) ∧ Aside0 (A4 w3 w' g8 (befN t m i) (inN t m i) pl (plW t 0 P (inN t m i))))
        case atStart => exact ⟨0, rfl, ⟨rfl⟩, ⟨Nat.zero_le _⟩, ⟨by
          have e1 : befN t m 0 = 0 := by unfold befN; omega
          have e2 : inN t m 0 = 0 := by unfold inN; omega
          rw [e1, e2]
          exact X4.out⟩⟩
        case round =>
          clear X4
          obtain ⟨i, rfl, HQ, HI, HA⟩ := hrel
          by_cases hj : i < tmN t
          · have hj1 : (i < l6.length) = True := eq_true (by rw [HLN.out]; exact hj)
            have hj2 : decide (i < l6.length) = true := decide_eq_true (by rw [HLN.out]; exact hj)
            have hj3 : decide ((i : Int) < (l6.length : Int)) = true := decide_eq_true (by rw [HLN.out]; omega)
            have HJ1 := Aside0.mk hj
            have e8 : wrap64 ((i : Int) + 1) = ((i + 1 : Nat) : Int) := by have := HN4.out; unfold wrap64; omega
            obtain ⟨ad, A7, c7, e0, x0, x1, x2, x3, x4, x5, x6, x7, hl7, hi7⟩ := at_T51 Q6.out.2.2 (i : Int) (by omega) (by rw [HLN.out]; omega)
            have hrd : rd_T51 l6 (i : Int) = entR t i := by rw [HL.out]; exact rdR_ents hj
            rw [hrd] at x3 x5
            rw [Int.toNat_natCast] at x3 x5
            cases e0
            have HST := Aside0.mk (chu_step (good_of HZ.out) HM.out hj)
            have ek : (entR t i).f5 = (ckOf (msL t) i : Int) := rfl
            have es : (entR t i).f3 = szF t i := rfl
            rw [ek] at x5
            rw [es] at x3
            obtain ⟨ck, hck⟩ : ∃ z : Nat, ckOf (msL t) (i : Int) = z := ⟨_, rfl⟩
            rw [hck] at x5 HST
            obtain ⟨c0, c1, c2, c3, f0, f1, f3⟩ := HA.out.cells
            have hbi : befN t m i ≤ 400 ∧ inN t m i ≤ 400 := by have := HN4.out; unfold befN inN; omega
            have HBI := Aside0.mk hbi
            have X53 := Aside0.mk x5
            have X5 := Aside0.mk ((HA.out.b.cell (World.block_lt_of_cell? w3 _ x5)).trans x5)
            have X3 := Aside0.mk ((HA.out.b.cell (World.block_lt_of_cell? w3 _ x3)).trans x3)
            clear hj x0 x1 x2 x3 x4 x5 x6 x7 hl7 hi7 hrd ek es hck hbi
            have hgn : (ad.add (i * 8)).block < w3.heap.size := World.block_lt_of_cell? w3 ⟨(ad.add (i * 8)).block, (ad.add (i * 8)).off + 5, none⟩ X53.out
            have HGN : Aside0 ((ad.add (i * 8)).block ≠ g8) := ⟨by have := HA.out.ge; omega⟩
            clear hgn X53
            by_cases hc1 : ck < m
            · have hd1 : decide ((ck : Int) < (m : Int)) = true := decide_eq_true (by omega)
              have hd2 : ((ck : Int) == (m : Int)) = false := beq_eq_false_iff_ne.mpr (by omega)
              have hd3 : (ck < m) = True := eq_true hc1
              have hd4 : (ck = m) = False := eq_false (by omega)
              have hst := HST.out.1 (by omega)
              have HS1 := Aside0.mk hst
              have ea : wrap64 ((befN t m i : Int) + 1) = ((befN t m (i + 1) : Nat) : Int) := by have := HBI.out.1; rw [hst.1]; unfold wrap64; omega
              have EA := Aside0.mk ea
              obtain ⟨b0, hb0⟩ : ∃ z : Nat, befN t m i = z := ⟨_, rfl⟩
              have hbp := HA.out.put0 (wrap64 ((befN t m i : Int) + 1))
              rw [hb0] at c0 hbp ea
              have HBP := Aside0.mk hbp
              have HB0 := Aside0.mk hb0
              have x5 := X5.out
              have y5 := cell_far (p := ⟨g8, 0, none⟩) (u := .int .i64 (wrap64 ((b0 : Int) + 1))) x5 HGN.out
              clear hc1 hst ea hbp hb0 HST
              go_wp2_with fail
              go_roundg (tmN t - (i + 1) + 1)
              case measure => have := HQ.out; have := HJ1.out; omega
              case rel => exact ⟨i + 1, by first | rfl | rw [e8], ⟨rfl⟩, ⟨HJ1.out⟩, ⟨by rw [HS1.out.2.1, ← EA.out, HB0.out]; exact HBP.out⟩⟩
            · have hd1 : decide ((ck : Int) < (m : Int)) = false := decide_eq_false (by omega)
              have hd3 : (ck < m) = False := eq_false hc1
              by_cases hc2 : ck = m
              · have hd2 : ((ck : Int) == (m : Int)) = true := beq_iff_eq.mpr (by omega)
                have hd4 : (ck = m) = True := eq_true hc2
                have hst := HST.out.2.1 (by omega)
                have HS1 := Aside0.mk hst
                obtain ⟨b1, hb1⟩ : ∃ z : Nat, inN t m i = z := ⟨_, rfl⟩
                have ea : wrap64 ((b1 : Int) + 1) = ((b1 + 1 : Nat) : Int) := by have := HBI.out.2; rw [hb1] at this; unfold wrap64; omega
                have EA := Aside0.mk ea
                have hbp := HA.out.put1 (wrap64 ((b1 : Int) + 1))
                have HB1 := Aside0.mk hb1
                rw [hb1] at c1 c3 hbp
                have HBP := Aside0.mk hbp
                have EP : Aside0 (plW t 0 P (b1 + 1) = wrap64 (plW t 0 P b1 + szF t i)) := ⟨by rw [plW, show P + b1 = i by have h5 := hst.2.2; rw [hb1, HP.out] at h5; omega]⟩
                obtain ⟨pb, hpb⟩ : ∃ z, plW t 0 P b1 = z := ⟨_, rfl⟩
                rw [hpb] at c3 HBP EP
                obtain ⟨sz, hsz⟩ : ∃ z, szF t i = z := ⟨_, rfl⟩
                rw [hsz] at X3 EP
                have x5 := X5.out
                have x3 := X3.out
                have X3B := Aside0.mk (cell_far (p := ⟨g8, 1, none⟩) (u := .int .i64 (wrap64 ((b1 : Int) + 1))) x3 HGN.out)
                clear hc1 hc2 hst ea hbp hb1 HST hpb hsz x3
                go_wp2_with fail
                generalize wr.setCell ⟨g8, 1, none⟩ (.int .i64 (wrap64 ((b1 : Int) + 1))) = wb at HBP X3B ⊢
                clear c0 c1 c2 c3 f0 f1 f3 x5
                have x3 := X3B.out
                obtain ⟨c0, c1, c2, c3, f0, f1, f3⟩ := HBP.out.cells
                go_still_tail 9, (by kernel_rfl)
                change wpList _ _ _ _ _ wb.drew
                clear hd1 hd2 hd3 hd4 hj1 hj2 hj3 x3 c0 c1 c2
                have f9 : wb.drew.frozen? ⟨g8, 3, none⟩ = false := f3
                have c9 : wb.drew.cell? ⟨g8, 3, none⟩ = some (.int .i64 pb) := c3
                clear c3 f0 f1 f3
                have HBD := Aside0.mk HBP.out.drew
                clear HBP
                generalize wb.drew = wbd at HBD f9 c9 ⊢
                go_wp2_with fail
                go_roundg (tmN t - (i + 1) + 1)
                case measure => have := HQ.out; have := HJ1.out; omega
                case rel => exact ⟨i + 1, by first | rfl | rw [e8], ⟨rfl⟩, ⟨HJ1.out⟩, ⟨by rw [HS1.out.1, HS1.out.2.1, HB1.out, EP.out, ← EA.out]; exact HBD.out.put3 _⟩⟩
              · have hd2 : ((ck : Int) == (m : Int)) = false := beq_eq_false_iff_ne.mpr (by omega)
                have hd4 : (ck = m) = False := eq_false hc2
                have hst := HST.out.2.2 (by omega)
                have HS1 := Aside0.mk hst
                have x5 := X5.out
                clear hc1 hc2 hst HST
                go_wp2_with fail
                go_roundg (tmN t - (i + 1) + 1)
                case measure => have := HQ.out; have := HJ1.out; omega
                case rel => exact ⟨i + 1, by first | rfl | rw [e8], ⟨rfl⟩, ⟨HJ1.out⟩, ⟨by rw [HS1.out.1, HS1.out.2]; exact HA.out⟩⟩
          · have hj1 : (i < l6.length) = False := eq_false (by rw [HLN.out]; exact hj)
            have hj2 : decide (i < l6.length) = false := decide_eq_false (by rw [HLN.out]; exact hj)
            have hj3 : decide ((i : Int) < (l6.length : Int)) = false := decide_eq_false (by rw [HLN.out]; omega)
            have hie : i = tmN t := by have := HI.out; omega
            have HA9 := HA.out
            have hmn := (chu_end (good_of HZ.out) HM.out).2
            rw [hie, (chu_end (good_of HZ.out) HM.out).1, hmn, show inN t m (tmN t) = (rd (msL t) m).toNat by omega, ← HP.out] at HA9
            have HA8 := Aside0.mk HA9
            clear hie HA9 hmn hj
            have K4c := Aside0.mk (blk_below K4b.out HA8.out.b)
            have hw9 := HA8.out.b
            have HX2 := HX
            rw [HPL.out] at HX2
            obtain ⟨y0, hy0⟩ : ∃ z, preL (msL t) m = z := ⟨_, rfl⟩
            obtain ⟨y1, hy1⟩ : ∃ z, rd (msL t) m = z := ⟨_, rfl⟩
            obtain ⟨y3, hy3⟩ : ∃ z, plW t 0 (preL (msL t) m).toNat (rd (msL t) m).toNat = z := ⟨_, rfl⟩
            rw [hy3] at HA8 HX2
            rw [hy0, hy1] at HA8 HX2
            clear hy0 hy1 hy3
            obtain ⟨c0, c1, c2, c3, -, -, -⟩ := HA8.out.cells
            obtain ⟨a0, a1, a2, a3, f0, f1, f2, f3⟩ := bcells4 K4c.out
            go_wp2_with fail
            (try simp only [Exit.inBlock, Exit.then])
            refine bodyPost_ret (results_ct rfl _ _ g4 62 #[.int .i64 y0, .int .i64 y1, .int .i64 pl, .int .i64 y3] (0, 0) _ rfl (put4 K4c.out _ _ _ _) Try.underlying62 rfl (by kernel_rfl)) rfl ?_
            rw [HX2.out]
            exact ⟨rfl, bel4 (below_step S3.out.b HA8.out.b) GE.out _ _ _ _⟩
  · have hz1 : (E != 0) = true := bne_iff_ne.mpr hz
    have HX : Aside0 (chuF t c = (0, 0, 0, 0, E)) := ⟨by rw [chuF, HE.out, if_neg hz]⟩
    clear hz
    go_wp2_with fail
    (try simp only [Exit.inBlock, Exit.then])
    refine bodyPost_ret (results_ct rfl _ _ g4 62 #[.int .i64 0, .int .i64 0, .int .i64 0, .int .i64 0] (0, 0) _ rfl (put4 K4b.out _ _ _ _) Try.underlying62 rfl (by kernel_rfl)) rfl ?_
    rw [HX.out]
    exact ⟨rfl, bel4 S3.out.b GE.out _ _ _ _⟩
end Go.Proofs.Ytmbhafgnmdfjhaa.QTab
namespace Go.Proofs.Ytmbhafgnmdfjhaa.QTab
open Go.Proofs.Ytmbhafgnmdfjhaa.PureT Go.RowKit Go.Proofs.YtmbhafgnmdfjhaaW.PrintWords Go.Proofs.YtmbhafgnmdfjhaaW.PrintLast Go.Proofs.YtmbhafgnmdfjhaaW.PrintMore Go.Proofs.YtmbhafgnmdfjhaaV
set_option linter.unusedVariables false
set_option linter.unusedSimpArgs false
theorem atP_calls {w : World} (t : S27) (d : D27) (hr : R27 w t d) (h : smallB t = true) (x : Int) : Calls Try.prog 31 #[.agg (cells27 t d), .int .i64 x] w fun e w' => e = .returned (.tuple #[.int .i64 (atF t x).1, .int .i64 (atF t x).2]) ∧ Below w.heap.size w w' := by
  obtain ⟨K, hK⟩ := at_ev h x
  exact table_At.calls K t.f0 d.A1 d.c1 t.f1 d.A2 d.c2 t.f2 d.A3 d.c3 t.f3 t.f4 t.f5 d.A6 d.c6 t.f6 d.A7 d.c7 t.f7 d.A8 d.c8 t.f8 d.A9 d.c9 t.f9 d.A10 d.c10 t.f10 x _ _ w hr.r1 hr.c1 hr.r2 hr.c2 hr.r3 hr.c3 hr.r6 hr.c6 hr.r7 hr.c7 hr.r8 hr.c8 hr.r9 hr.c9 hr.r10 hr.c10 (hK K (Nat.le_refl _))
theorem atR_calls {w : World} (t : S27) (d : D27) (hr : R27 w t d) (h : smallB t = true) (x : Int) : Calls Try.prog 32 #[.agg (cells27 t d), .int .i64 x] w fun e w' => e = .returned (.tuple #[.int .i64 (atF t x).1, .int .i64 (atF t x).2]) ∧ Below w.heap.size w w' := by
  obtain ⟨K, hK⟩ := rat_ev h x
  exact dioramaref09_At.calls K t.f0 d.A1 d.c1 t.f1 d.A2 d.c2 t.f2 d.A3 d.c3 t.f3 t.f4 t.f5 d.A6 d.c6 t.f6 d.A7 d.c7 t.f7 d.A8 d.c8 t.f8 d.A9 d.c9 t.f9 d.A10 d.c10 t.f10 x _ _ w hr.r1 hr.c1 hr.r2 hr.c2 hr.r3 hr.c3 hr.r6 hr.c6 hr.r7 hr.c7 hr.r8 hr.c8 hr.r9 hr.c9 hr.r10 hr.c10 (hK K (Nat.le_refl _))
theorem bfP_calls {w : World} (t : S27) (d : D27) (hr : R27 w t d) (h : smallB t = true) (x : Int) : Calls Try.prog 33 #[.agg (cells27 t d), .int .i64 x] w fun e w' => e = .returned (.tuple #[.int .i64 (bfF t x).1, .int .i64 (bfF t x).2]) ∧ Below w.heap.size w w' := by
  obtain ⟨K, hK⟩ := bf_ev h x
  exact table_Before.calls K t.f0 d.A1 d.c1 t.f1 d.A2 d.c2 t.f2 d.A3 d.c3 t.f3 t.f4 t.f5 d.A6 d.c6 t.f6 d.A7 d.c7 t.f7 d.A8 d.c8 t.f8 d.A9 d.c9 t.f9 d.A10 d.c10 t.f10 x _ _ w hr.r1 hr.c1 hr.r2 hr.c2 hr.r3 hr.c3 hr.r6 hr.c6 hr.r7 hr.c7 hr.r8 hr.c8 hr.r9 hr.c9 hr.r10 hr.c10 (hK K (Nat.le_refl _))
theorem bfR_calls {w : World} (t : S27) (d : D27) (hr : R27 w t d) (h : smallB t = true) (x : Int) : Calls Try.prog 34 #[.agg (cells27 t d), .int .i64 x] w fun e w' => e = .returned (.tuple #[.int .i64 (bfF t x).1, .int .i64 (bfF t x).2]) ∧ Below w.heap.size w w' := by
  obtain ⟨K, hK⟩ := rbf_ev h x
  exact dioramaref09_Before.calls K t.f0 d.A1 d.c1 t.f1 d.A2 d.c2 t.f2 d.A3 d.c3 t.f3 t.f4 t.f5 d.A6 d.c6 t.f6 d.A7 d.c7 t.f7 d.A8 d.c8 t.f8 d.A9 d.c9 t.f9 d.A10 d.c10 t.f10 x _ _ w hr.r1 hr.c1 hr.r2 hr.c2 hr.r3 hr.c3 hr.r6 hr.c6 hr.r7 hr.c7 hr.r8 hr.c8 hr.r9 hr.c9 hr.r10 hr.c10 (hK K (Nat.le_refl _))
theorem chP_calls {w : World} (t : S27) (d : D27) (hr : R27 w t d) (h : smallB t = true) (x : Int) : Calls Try.prog 35 #[.agg (cells27 t d), .int .i64 x] w fun e w' => e = .returned (.tuple #[.int .i64 (chuF t x).1, .int .i64 (chuF t x).2.1, .int .i64 (chuF t x).2.2.1, .int .i64 (chuF t x).2.2.2.1, .int .i64 (chuF t x).2.2.2.2]) ∧ Below w.heap.size w w' := by
  obtain ⟨K, hK⟩ := chu_ev h x
  exact table_Chunk.calls K t.f0 d.A1 d.c1 t.f1 d.A2 d.c2 t.f2 d.A3 d.c3 t.f3 t.f4 t.f5 d.A6 d.c6 t.f6 d.A7 d.c7 t.f7 d.A8 d.c8 t.f8 d.A9 d.c9 t.f9 d.A10 d.c10 t.f10 x _ _ _ _ _ w hr.r1 hr.c1 hr.r2 hr.c2 hr.r3 hr.c3 hr.r6 hr.c6 hr.r7 hr.c7 hr.r8 hr.c8 hr.r9 hr.c9 hr.r10 hr.c10 (hK K (Nat.le_refl _))
theorem eq4 (w : World) (a b c d : Int) : Sem.run Try.prog (Op.equalIn 10000 62 (.agg #[.int .i64 a, .int .i64 b, .int .i64 c, .int .i64 d]) (.agg #[.int .i64 a, .int .i64 b, .int .i64 c, .int .i64 d])) w = .ok true w := by
  have hu := Try.underlying62
  have h3 := Try.underlying3
  have he : ∀ x : Int, Sem.run Try.prog (Op.equalIn 9999 3 (.int .i64 x) (.int .i64 x)) w = .ok true w := by
    intro x
    rw [show (9999 : Nat) = 9998 + 1 from rfl, run_equalIn_int (P := Try.prog) w 9998 3 .i64 .i64 x x h3]
    simp
  rw [show (10000 : Nat) = 9999 + 1 from rfl]
  unfold Op.equalIn
  generalize hE : Op.equalIn 9999 = E at he ⊢
  simp [run_underlying hu, Std.Legacy.Range.forIn_eq_forIn_range']
  have hp0 : Sem.run Try.prog (part 3 #[.int .i64 a, .int .i64 b, .int .i64 c, .int .i64 d] 0) w = .ok (.int .i64 a) w := by kernel_rfl
  have hp1 : Sem.run Try.prog (part 3 #[.int .i64 a, .int .i64 b, .int .i64 c, .int .i64 d] 1) w = .ok (.int .i64 b) w := by kernel_rfl
  have hp2 : Sem.run Try.prog (part 3 #[.int .i64 a, .int .i64 b, .int .i64 c, .int .i64 d] 2) w = .ok (.int .i64 c) w := by kernel_rfl
  have hp3 : Sem.run Try.prog (part 3 #[.int .i64 a, .int .i64 b, .int .i64 c, .int .i64 d] 3) w = .ok (.int .i64 d) w := by kernel_rfl
  rw [show List.range' 0 4 = [0, 1, 2, 3] from rfl]
  simp [List.forIn_cons, hp0, hp1, hp2, hp3, he]
def cells57 (t : S27) (d : D27) (x y z : Int) : Array Value := #[.int .i64 t.f0, .slice d.A1 t.f1.length d.c1, .slice d.A2 t.f2.length d.c2, .slice d.A3 t.f3.length d.c3, .bool t.f4, .int .i64 t.f5, .slice d.A6 t.f6.length d.c6, .slice d.A7 t.f7.length d.c7, .slice d.A8 t.f8.length d.c8, .slice d.A9 t.f9.length d.c9, .slice d.A10 t.f10.length d.c10, .int .i64 x, .int .i64 y, .int .i64 z]
set_option maxRecDepth 100000 in
set_option maxHeartbeats 4000000 in
theorem asks_calls {w : World} (t : S27) (d : D27) (hr : R27 w t d) (dts i c : Int) :
    Calls Try.prog 6 #[.agg (cells57 t d dts i c)] w fun e w' => e = .returned (.bool true) ∧ Below w.heap.size w w' := by
  have HR := Aside0.mk hr
  clear hr
  have hu := Try.underlying27
  have hu57 := Try.underlying57
  have hu62 := Try.underlying62
  unfold cells57
  go_enter Try.func6, Try.ntmps6
  obtain ⟨w1, hw1⟩ : ∃ wz, w.alloc (.cells (cells57 t d dts i c) 57) = wz := ⟨_, rfl⟩
  obtain ⟨g, hg⟩ : ∃ rz, w.heap.size = rz := ⟨_, rfl⟩
  have B1 : Aside0 (Below w.heap.size w w1) := ⟨by rw [← hw1]; exact below_alloc (Below.refl _ _) _⟩
  have K1 : Aside0 (w1.heap[g]? = some (.cells (cells57 t d dts i c) 57 (0, 0))) := ⟨by rw [← hw1, ← hg]; exact blk_new w _⟩
  unfold cells57 at hw1
  go_wp2_with fail
  clear hw1 hg
  refine start_ (n := 13) (S := fun w' => w'.cell? ⟨g, 0, none⟩ = some (.int .i64 t.f0) ∧ w'.cell? ⟨g, 1, none⟩ = some (.slice d.A1 t.f1.length d.c1) ∧ w'.cell? ⟨g, 2, none⟩ = some (.slice d.A2 t.f2.length d.c2) ∧ w'.cell? ⟨g, 3, none⟩ = some (.slice d.A3 t.f3.length d.c3) ∧ w'.cell? ⟨g, 4, none⟩ = some (.bool t.f4) ∧ w'.cell? ⟨g, 5, none⟩ = some (.int .i64 t.f5) ∧ w'.cell? ⟨g, 6, none⟩ = some (.slice d.A6 t.f6.length d.c6) ∧ w'.cell? ⟨g, 7, none⟩ = some (.slice d.A7 t.f7.length d.c7) ∧ w'.cell? ⟨g, 8, none⟩ = some (.slice d.A8 t.f8.length d.c8) ∧ w'.cell? ⟨g, 9, none⟩ = some (.slice d.A9 t.f9.length d.c9) ∧ w'.cell? ⟨g, 10, none⟩ = some (.slice d.A10 t.f10.length d.c10) ∧ w'.cell? ⟨g, 11, none⟩ = some (.int .i64 dts) ∧ w'.cell? ⟨g, 12, none⟩ = some (.int .i64 i) ∧ w'.cell? ⟨g, 13, none⟩ = some (.int .i64 c)) (ds := []) #[false, false, false, false, false, false, false, false, false, false, false, false, false] (by kernel_rfl) rfl rfl ⟨(blk_cell K1.out 0).trans rfl, (blk_cell K1.out 1).trans rfl, (blk_cell K1.out 2).trans rfl, (blk_cell K1.out 3).trans rfl, (blk_cell K1.out 4).trans rfl, (blk_cell K1.out 5).trans rfl, (blk_cell K1.out 6).trans rfl, (blk_cell K1.out 7).trans rfl, (blk_cell K1.out 8).trans rfl, (blk_cell K1.out 9).trans rfl, (blk_cell K1.out 10).trans rfl, (blk_cell K1.out 11).trans rfl, (blk_cell K1.out 12).trans rfl, (blk_cell K1.out 13).trans rfl⟩ (fun hHeld => ?_)
  refine pure_ (i := 0) (N := some 18) (v := ?_) (a' := ?_) #[true, false, false, false, false, false, false, false, false, false, false, false, false] rfl rfl (by kernel_rfl) (fun _ _ _ h => h) (Or.inl ⟨by rfl, ?_⟩) ?_ ?_
  rotate_left
  · intro w'
    go_simp
    with_reducible rfl
  rotate_left
  · simp only [Act.put, List.setIfInBounds_toArray, List.set_cons_zero, List.set_cons_succ, i64_w, i32_w]
    rfl
  refine pure_ (i := 2) (N := some 20) (v := ?_) (a' := ?_) #[true, false, true, false, false, false, false, false, false, false, false, false, false] rfl rfl (by kernel_rfl) (fun _ _ _ h => h) (Or.inl ⟨by rfl, ?_⟩) ?_ ?_
  rotate_left
  · intro w'
    go_simp
    with_reducible rfl
  rotate_left
  · simp only [Act.put, List.setIfInBounds_toArray, List.set_cons_zero, List.set_cons_succ, i64_w, i32_w]
    rfl
  refine pure_ (i := 4) (N := some 22) (v := ?_) (a' := ?_) #[true, false, true, false, true, false, false, false, false, false, false, false, false] rfl rfl (by kernel_rfl) (fun _ _ _ h => h) (Or.inl ⟨by rfl, ?_⟩) ?_ ?_
  rotate_left
  · intro w'
    go_simp
    with_reducible rfl
  rotate_left
  · simp only [Act.put, List.setIfInBounds_toArray, List.set_cons_zero, List.set_cons_succ, i64_w, i32_w]
    rfl
  refine pure_ (i := 6) (N := some 24) (v := ?_) (a' := ?_) #[true, false, true, false, true, false, true, false, false, false, false, false, false] rfl rfl (by kernel_rfl) (fun _ _ _ h => h) (Or.inl ⟨by rfl, ?_⟩) ?_ ?_
  rotate_left
  · intro w'
    go_simp
    with_reducible rfl
  rotate_left
  · simp only [Act.put, List.setIfInBounds_toArray, List.set_cons_zero, List.set_cons_succ, i64_w, i32_w]
    rfl
  refine take_ (i := 1) (N := some 19) (v := ?_) (a' := ?_) #[true, true, true, false, true, false, true, false, false, false, false, false, false] rfl rfl (by kernel_rfl) (fun _ _ _ h => h) (Or.inl ⟨by rfl, ?_⟩) hHeld ?_ ?_
  rotate_left
  · rintro w' ⟨s0, s1, s2, s3, s4, s5, s6, s7, s8, s9, s10, s11, s12, s13⟩
    go_simp
    with_reducible rfl
  rotate_left
  · simp only [Act.put, List.setIfInBounds_toArray, List.set_cons_zero, List.set_cons_succ, i64_w, i32_w]
    rfl
  refine take_ (i := 3) (N := some 21) (v := ?_) (a' := ?_) #[true, true, true, true, true, false, true, false, false, false, false, false, false] rfl rfl (by kernel_rfl) (fun _ _ _ h => h) (Or.inl ⟨by rfl, ?_⟩) hHeld ?_ ?_
  rotate_left
  · rintro w' ⟨s0, s1, s2, s3, s4, s5, s6, s7, s8, s9, s10, s11, s12, s13⟩
    go_simp
    with_reducible rfl
  rotate_left
  · simp only [Act.put, List.setIfInBounds_toArray, List.set_cons_zero, List.set_cons_succ, i64_w, i32_w]
    rfl
  refine take_ (i := 5) (N := some 23) (v := ?_) (a' := ?_) #[true, true, true, true, true, true, true, false, false, false, false, false, false] rfl rfl (by kernel_rfl) (fun _ _ _ h => h) (Or.inl ⟨by rfl, ?_⟩) hHeld ?_ ?_
  rotate_left
  · rintro w' ⟨s0, s1, s2, s3, s4, s5, s6, s7, s8, s9, s10, s11, s12, s13⟩
    go_simp
    with_reducible rfl
  rotate_left
  · simp only [Act.put, List.setIfInBounds_toArray, List.set_cons_zero, List.set_cons_succ, i64_w, i32_w]
    rfl
  refine take_ (i := 7) (N := some 25) (v := ?_) (a' := ?_) #[true, true, true, true, true, true, true, true, false, false, false, false, false] rfl rfl (by kernel_rfl) (fun _ _ _ h => h) (Or.inl ⟨by rfl, ?_⟩) hHeld ?_ ?_
  rotate_left
  · rintro w' ⟨s0, s1, s2, s3, s4, s5, s6, s7, s8, s9, s10, s11, s12, s13⟩
    go_simp
    with_reducible rfl
  rotate_left
  · simp only [Act.put, List.setIfInBounds_toArray, List.set_cons_zero, List.set_cons_succ, i64_w, i32_w]
    rfl
  refine one_ (i := 8) (N := some 3) #[true, true, true, true, true, true, true, true, true, false, false, false, false] rfl rfl (by kernel_rfl) (by decide) (fun K hK => ?_)
  refine value_ (w1 := ?_) (v := ?_) (by rfl) rfl ?_ ?_
  rotate_left 2
  · go_simp
    constructor
    · rfl
    · rfl
  refine hK.out _ _ ⟨(blk_cell (blk_alloc K1.out _) 0).trans rfl, (blk_cell (blk_alloc K1.out _) 1).trans rfl, (blk_cell (blk_alloc K1.out _) 2).trans rfl, (blk_cell (blk_alloc K1.out _) 3).trans rfl, (blk_cell (blk_alloc K1.out _) 4).trans rfl, (blk_cell (blk_alloc K1.out _) 5).trans rfl, (blk_cell (blk_alloc K1.out _) 6).trans rfl, (blk_cell (blk_alloc K1.out _) 7).trans rfl, (blk_cell (blk_alloc K1.out _) 8).trans rfl, (blk_cell (blk_alloc K1.out _) 9).trans rfl, (blk_cell (blk_alloc K1.out _) 10).trans rfl, (blk_cell (blk_alloc K1.out _) 11).trans rfl, (blk_cell (blk_alloc K1.out _) 12).trans rfl, (blk_cell (blk_alloc K1.out _) 13).trans rfl⟩ (fun hHeld => ?_)
  clear hK K
  refine norm_ (a' := ?_) ?_ ?_
  rotate_left
  · show Act.put _ (some 3) _ = _
    simp only [Act.put, List.setIfInBounds_toArray, List.set_cons_zero, List.set_cons_succ, i64_w, i32_w]
    rfl
  refine one_ (i := 9) (N := none) #[true, true, true, true, true, true, true, true, true, true, false, false, false] rfl rfl (by kernel_rfl) (by decide) (fun K hK => ?_)
  refine skip_ (w1 := ?_) (by rfl) rfl ?_ ?_
  rotate_left
  · go_simp
    rfl
  refine hK.out _ _ ⟨(blk_cell (blk_alloc K1.out _) 0).trans rfl, (blk_cell (blk_alloc K1.out _) 1).trans rfl, (blk_cell (blk_alloc K1.out _) 2).trans rfl, (blk_cell (blk_alloc K1.out _) 3).trans rfl, (blk_cell (blk_alloc K1.out _) 4).trans rfl, (blk_cell (blk_alloc K1.out _) 5).trans rfl, (blk_cell (blk_alloc K1.out _) 6).trans rfl, (blk_cell (blk_alloc K1.out _) 7).trans rfl, (blk_cell (blk_alloc K1.out _) 8).trans rfl, (blk_cell (blk_alloc K1.out _) 9).trans rfl, (blk_cell (blk_alloc K1.out _) 10).trans rfl, (blk_cell (blk_alloc K1.out _) 11).trans rfl, (blk_cell (blk_alloc K1.out _) 12).trans rfl, (blk_cell (blk_alloc K1.out _) 13).trans rfl⟩ (fun hHeld => ?_)
  clear hK K
  refine pure_ (i := 10) (N := some 4) (v := ?_) (a' := ?_) #[true, true, true, true, true, true, true, true, true, true, true, false, false] rfl rfl (by kernel_rfl) (fun _ _ _ h => h) (Or.inl ⟨by rfl, ?_⟩) ?_ ?_
  rotate_left
  · intro w'
    go_simp
    with_reducible rfl
  rotate_left
  · simp only [Act.put, List.setIfInBounds_toArray, List.set_cons_zero, List.set_cons_succ, i64_w, i32_w]
    rfl
  refine pure_ (i := 11) (N := some 5) (v := ?_) (a' := ?_) #[true, true, true, true, true, true, true, true, true, true, true, true, false] rfl rfl (by kernel_rfl) (fun _ _ _ h => h) (Or.inl ⟨by rfl, ?_⟩) ?_ ?_
  rotate_left
  · intro w'
    go_simp
    with_reducible rfl
  rotate_left
  · simp only [Act.put, List.setIfInBounds_toArray, List.set_cons_zero, List.set_cons_succ, i64_w, i32_w]
    rfl
  refine pure_ (i := 12) (N := some 6) (v := ?_) (a' := ?_) #[true, true, true, true, true, true, true, true, true, true, true, true, true] rfl rfl (by kernel_rfl) (fun _ _ _ h => h) (Or.inl ⟨by rfl, ?_⟩) ?_ ?_
  rotate_left
  · intro w'
    go_simp
    with_reducible rfl
  rotate_left
  · simp only [Act.put, List.setIfInBounds_toArray, List.set_cons_zero, List.set_cons_succ, i64_w, i32_w]
    rfl
  refine done_ (by kernel_rfl) ?_
  clear hHeld
  generalize hwa : (w1.alloc (Obj.cells #[.int .i64 t.f0, .slice d.A1 t.f1.length d.c1, .slice d.A2 t.f2.length d.c2, .slice d.A3 t.f3.length d.c3, .bool t.f4, .int .i64 t.f5, .slice d.A6 t.f6.length d.c6, .slice d.A7 t.f7.length d.c7, .slice d.A8 t.f8.length d.c8, .slice d.A9 t.f9.length d.c9, .slice d.A10 t.f10.length d.c10] 27)).drew = wa
  have hba : Below w1.heap.size w1 wa := by rw [← hwa]; exact below_drew (below_alloc (Below.refl _ _) _)
  have hka : Box27 wa w1.heap.size t d := by rw [← hwa]; exact blk_drew (blk_new w1 _)
  have S0 : Aside0 (St4 w wa w1.heap.size t d) := ⟨⟨below_step B1.out hba, hka, HR.out.below (below_step B1.out hba)⟩⟩
  clear hba hka hwa K1 B1
  generalize w1.heap.size = g3 at S0 ⊢
  obtain ⟨q0, q1, q2, q3, q4, q5, q6, q7, q8, q9, q10⟩ := S0.out.k.cells
  go_wp2_with fail
  have HC2 := small_calls t d S0.out.r
  unfold cells27 at HC2
  refine HC2.mono ?_
  rintro e v1 ⟨rfl, hb⟩
  have S1 := Aside0.mk (S0.out.step hb)
  clear hb HC2 S0 q0 q1 q2 q3 q4 q5 q6 q7 q8 q9 q10
  cases hs1 : smallB t with
  | false =>
    clear hs1
    go_wp2_with fail
    go_ret
    exact ⟨rfl, S1.out.b⟩
  | true =>
  have HS := Aside0.mk hs1
  clear hs1
  obtain ⟨x0, hx0⟩ : ∃ z, (atF t dts).1 = z := ⟨_, rfl⟩
  obtain ⟨x1, hx1⟩ : ∃ z, (atF t dts).2 = z := ⟨_, rfl⟩
  obtain ⟨y0, hy0⟩ : ∃ z, (bfF t i).1 = z := ⟨_, rfl⟩
  obtain ⟨y1, hy1⟩ : ∃ z, (bfF t i).2 = z := ⟨_, rfl⟩
  obtain ⟨z0, hz0⟩ : ∃ z, (chuF t c).1 = z := ⟨_, rfl⟩
  obtain ⟨z1, hz1⟩ : ∃ z, (chuF t c).2.1 = z := ⟨_, rfl⟩
  obtain ⟨z2, hz2⟩ : ∃ z, (chuF t c).2.2.1 = z := ⟨_, rfl⟩
  obtain ⟨z3, hz3⟩ : ∃ z, (chuF t c).2.2.2.1 = z := ⟨_, rfl⟩
  obtain ⟨z4, hz4⟩ : ∃ z, (chuF t c).2.2.2.2 = z := ⟨_, rfl⟩
  have X0 := Aside0.mk hx0
  have X1 := Aside0.mk hx1
  have Y0 := Aside0.mk hy0
  have Y1 := Aside0.mk hy1
  have Z0 := Aside0.mk hz0
  have Z1 := Aside0.mk hz1
  have Z2 := Aside0.mk hz2
  have Z3 := Aside0.mk hz3
  have Z4 := Aside0.mk hz4
  clear hx0 hx1 hy0 hy1 hz0 hz1 hz2 hz3 hz4
  obtain ⟨q0, q1, q2, q3, q4, q5, q6, q7, q8, q9, q10⟩ := S1.out.k.cells
  go_wp2_with fail
  have HC2 := atP_calls t d S1.out.r HS.out dts
  unfold cells27 at HC2
  rw [X0.out, X1.out] at HC2
  refine HC2.mono ?_
  rintro e v2 ⟨rfl, hb⟩
  have S2 := Aside0.mk (S1.out.step hb)
  clear hb HC2 S1 q0 q1 q2 q3 q4 q5 q6 q7 q8 q9 q10
  obtain ⟨q0, q1, q2, q3, q4, q5, q6, q7, q8, q9, q10⟩ := S2.out.k.cells
  go_wp2_with fail
  have HC2 := atR_calls t d S2.out.r HS.out dts
  unfold cells27 at HC2
  rw [X0.out, X1.out] at HC2
  refine HC2.mono ?_
  rintro e v3 ⟨rfl, hb⟩
  have S3 := Aside0.mk (S2.out.step hb)
  clear hb HC2 S2 q0 q1 q2 q3 q4 q5 q6 q7 q8 q9 q10
  have hx0 : (x0 != x0) = false := by simp
  have hx1 : (x1 != x1) = false := by simp
  obtain ⟨q0, q1, q2, q3, q4, q5, q6, q7, q8, q9, q10⟩ := S3.out.k.cells
  go_wp2_with fail
  have HC2 := bfP_calls t d S3.out.r HS.out i
  unfold cells27 at HC2
  rw [Y0.out, Y1.out] at HC2
  refine HC2.mono ?_
  rintro e v4 ⟨rfl, hb⟩
  have S4 := Aside0.mk (S3.out.step hb)
  clear hb HC2 S3 q0 q1 q2 q3 q4 q5 q6 q7 q8 q9 q10
  obtain ⟨q0, q1, q2, q3, q4, q5, q6, q7, q8, q9, q10⟩ := S4.out.k.cells
  go_wp2_with fail
  have HC2 := bfR_calls t d S4.out.r HS.out i
  unfold cells27 at HC2
  rw [Y0.out, Y1.out] at HC2
  refine HC2.mono ?_
  rintro e v5 ⟨rfl, hb⟩
  have S5 := Aside0.mk (S4.out.step hb)
  clear hb HC2 S4 q0 q1 q2 q3 q4 q5 q6 q7 q8 q9 q10
  have hy0 : (y0 != y0) = false := by simp
  have hy1 : (y1 != y1) = false := by simp
  obtain ⟨q0, q1, q2, q3, q4, q5, q6, q7, q8, q9, q10⟩ := S5.out.k.cells
  go_wp2_with fail
  have HC2 := chP_calls t d S5.out.r HS.out c
  unfold cells27 at HC2
  rw [Z0.out, Z1.out, Z2.out, Z3.out, Z4.out] at HC2
  refine HC2.mono ?_
  rintro e v6 ⟨rfl, hb⟩
  have S6 := Aside0.mk (S5.out.step hb)
  clear hb HC2 S5 q0 q1 q2 q3 q4 q5 q6 q7 q8 q9 q10
  obtain ⟨q0, q1, q2, q3, q4, q5, q6, q7, q8, q9, q10⟩ := S6.out.k.cells
  go_wp2_with fail
  have HC2 := rchunk_calls t d S6.out.r HS.out c
  unfold cells27 arr4V arr4 at HC2
  rw [Z0.out, Z1.out, Z2.out, Z3.out, Z4.out] at HC2
  refine HC2.mono ?_
  rintro e v7 ⟨rfl, hb⟩
  have S7 := Aside0.mk (S6.out.step hb)
  clear hb HC2 S6 q0 q1 q2 q3 q4 q5 q6 q7 q8 q9 q10
  obtain ⟨wz, hwz⟩ : ∃ wz, v7.alloc (.cells #[.int .i64 z0, .int .i64 z1, .int .i64 z2, .int .i64 z3] 62) = wz := ⟨_, rfl⟩
  obtain ⟨g16, hg16⟩ : ∃ rz, v7.heap.size = rz := ⟨_, rfl⟩
  have BZ : Aside0 (Below w.heap.size w wz) := ⟨below_step S7.out.b (by rw [← hwz]; exact below_alloc (Below.refl _ _) _)⟩
  have hkz : wz.heap[g16]? = some (.cells #[.int .i64 z0, .int .i64 z1, .int .i64 z2, .int .i64 z3] 62 (0, 0)) := by rw [← hwz, ← hg16]; exact blk_new v7 _
  obtain ⟨a0, a1, a2, a3, f0, f1, f2, f3⟩ := bcells4 hkz
  clear hkz S7
  have hz4 : (z4 == z4) = true := by simp
  have heq := eq4 wz z0 z1 z2 z3
  go_wp2_with fail
  refine (awake_calls (w := wz)).mono ?_
  rintro e w11 ⟨rfl, hb⟩
  have B11 := Aside0.mk (below_step BZ.out hb)
  clear hb BZ hwz hg16 a0 a1 a2 a3 f0 f1 f2 f3 heq
  go_wp2_with fail
  go_ret
  exact ⟨rfl, B11.out⟩
def dioramalaw09_TableAsks.f (a0_0 : Int) (l0_1 : List S83) (l0_2 : List S83) (l0_3 : List Int) (a0_4 : Bool) (a0_5 : Int) (l0_6 : List Int) (l0_7 : List S86) (l0_8 : List Int) (l0_9 : List S83) (l0_10 : List (List Int)) (a1 a2 a3 : Int) : Option Bool := some true
theorem dioramalaw09_TableAsks.calls (a0_0 : Int) (A0_1 : Option Addr) (c0_1 : Nat) (l0_1 : List S83) (A0_2 : Option Addr) (c0_2 : Nat) (l0_2 : List S83) (A0_3 : Option Addr) (c0_3 : Nat) (l0_3 : List Int) (a0_4 : Bool) (a0_5 : Int) (A0_6 : Option Addr) (c0_6 : Nat) (l0_6 : List Int) (A0_7 : Option Addr) (c0_7 : Nat) (l0_7 : List S86) (A0_8 : Option Addr) (c0_8 : Nat) (l0_8 : List Int) (A0_9 : Option Addr) (c0_9 : Nat) (l0_9 : List S83) (A0_10 : Option Addr) (c0_10 : Nat) (l0_10 : List (List Int)) (a1 a2 a3 : Int) (r : Bool) (w : World) (hr0_1 : Kd.C k83 w A0_1 l0_1.length l0_1) (hc0_1 : l0_1.length ≤ c0_1) (hr0_2 : Kd.C k83 w A0_2 l0_2.length l0_2) (hc0_2 : l0_2.length ≤ c0_2) (hr0_3 : Kd.C (Kd.int .i64) w A0_3 l0_3.length l0_3) (hc0_3 : l0_3.length ≤ c0_3) (hr0_6 : Kd.C (Kd.int .i64) w A0_6 l0_6.length l0_6) (hc0_6 : l0_6.length ≤ c0_6) (hr0_7 : Kd.C k86 w A0_7 l0_7.length l0_7) (hc0_7 : l0_7.length ≤ c0_7) (hr0_8 : Kd.C (Kd.int .i64) w A0_8 l0_8.length l0_8) (hc0_8 : l0_8.length ≤ c0_8) (hr0_9 : Kd.C k83 w A0_9 l0_9.length l0_9) (hc0_9 : l0_9.length ≤ c0_9) (hr0_10 : Kd.C (Kd.slice 3 (Kd.int .i64)) w A0_10 l0_10.length l0_10) (hc0_10 : l0_10.length ≤ c0_10) (h : dioramalaw09_TableAsks.f a0_0 l0_1 l0_2 l0_3 a0_4 a0_5 l0_6 l0_7 l0_8 l0_9 l0_10 a1 a2 a3 = some r) :
    Calls Try.prog 6 #[.agg #[.int .i64 a0_0, .slice A0_1 l0_1.length c0_1, .slice A0_2 l0_2.length c0_2, .slice A0_3 l0_3.length c0_3, .bool a0_4, .int .i64 a0_5, .slice A0_6 l0_6.length c0_6, .slice A0_7 l0_7.length c0_7, .slice A0_8 l0_8.length c0_8, .slice A0_9 l0_9.length c0_9, .slice A0_10 l0_10.length c0_10, .int .i64 a1, .int .i64 a2, .int .i64 a3]] w fun e w' => e = .returned (.bool r) ∧ Below w.heap.size w w' := by
  cases h
  exact asks_calls (⟨a0_0, l0_1, l0_2, l0_3, a0_4, a0_5, l0_6, l0_7, l0_8, l0_9, l0_10⟩ : S27) (⟨A0_1, c0_1, A0_2, c0_2, A0_3, c0_3, A0_6, c0_6, A0_7, c0_7, A0_8, c0_8, A0_9, c0_9, A0_10, c0_10⟩ : D27) ⟨hr0_1, hr0_2, hr0_3, hr0_6, hr0_7, hr0_8, hr0_9, hr0_10, hc0_1, hc0_2, hc0_3, hc0_6, hc0_7, hc0_8, hc0_9, hc0_10⟩ a1 a2 a3
end Go.Proofs.Ytmbhafgnmdfjhaa.QTab
