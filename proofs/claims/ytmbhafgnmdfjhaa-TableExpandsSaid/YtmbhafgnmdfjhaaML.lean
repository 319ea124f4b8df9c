/- A text of the pure side: table.Lookup and the document's Lookup tell the entry of a sample. No condition. A text of the pure side: table.Lookup tells the entry of a sample. No condition. -/
import Derived.Test.YtmbhafgnmdfjhaaME
import Derived.Test.YtmbhafgnmdfjhaaQTabzLk
namespace Go.Proofs.Ytmbhafgnmdfjhaa.PureT
open Go.RowKit Go.Proofs.Ytmbhafgnmdfjhaa.QTab Go.Proofs.YtmbhafgnmdfjhaaW.PrintWords Go.Proofs.YtmbhafgnmdfjhaaW.PrintMore Go.Proofs.YtmbhafgnmdfjhaaV
theorem lsum_rep (a : Int) : ∀ m : Nat, lsum (List.replicate m a) = m * a
  | 0 => by simp [lsum]
  | m + 1 => by
    rw [List.replicate_succ, lsum, lsum_rep a m, Int.natCast_succ, Int.add_mul]
    omega
theorem valG_rng {a b : Int} : ∀ {l : List S83}, l.any (badR a b) = false → ∀ x ∈ valG l, a ≤ x ∧ x ≤ b
  | [], _, x, hx => by simp [valG] at hx
  | r :: l, h, x, hx => by
    rw [List.any_cons, Bool.or_eq_false_iff] at h
    rw [valG, List.mem_append] at hx
    rcases hx with hx | hx
    · have := (List.mem_replicate.mp hx).2
      subst this
      have h1 := h.1
      unfold badR at h1
      simp only [Bool.or_eq_false_iff, Bool.not_eq_false', decide_eq_true_eq] at h1
      exact h1.2
    · exact valG_rng h.2 x hx
theorem lsum_bd {b : Int} : ∀ {l : List Int}, (∀ x ∈ l, 0 ≤ x ∧ x ≤ b) → 0 ≤ lsum l ∧ lsum l ≤ l.length * b
  | [], _ => by simp [lsum]
  | x :: l, h => by
    have h1 := h x (List.mem_cons_self ..)
    obtain ⟨a, c⟩ := lsum_bd (l := l) (fun y hy => h y (List.mem_cons_of_mem _ hy))
    rw [List.length_cons, Int.natCast_succ, Int.add_mul]
    simp only [lsum]
    omega
theorem lsum_next {l : List Int} {i : Nat} (h : i < l.length) : lsum (l.take (i + 1)) = lsum (l.take i) + rd l i := preL_next h
theorem dts_sum {t : S27} (G : GoodT t) : ∀ i, i ≤ tmN t → dtsAt t.f0 (valG t.f1) i = t.f0 + lsum ((valG t.f1).take i) ∧ 0 ≤ lsum ((valG t.f1).take i) ∧ lsum ((valG t.f1).take i) ≤ 879609302220800
  | 0, _ => by
    refine ⟨?_, ?_, ?_⟩
    · show t.f0 = t.f0 + 0; omega
    · show (0 : Int) ≤ 0; omega
    · show (0 : Int) ≤ _; omega
  | i + 1, h => by
    obtain ⟨e, _, _⟩ := dts_sum G i (by omega)
    have hb := lsum_bd (l := (valG t.f1).take (i + 1)) (b := 2199023255552) (fun x hx => valG_rng G.v1 x (List.mem_of_mem_take hx))
    have hl : (((valG t.f1).take (i + 1)).length : Int) ≤ 400 := by have := G.n; rw [List.length_take]; omega
    have hb2 : lsum ((valG t.f1).take (i + 1)) ≤ 879609302220800 := by omega
    have hn := lsum_next (l := valG t.f1) (i := i) h
    refine ⟨?_, hb.1, hb2⟩
    rw [dtsAt_next h, e, hn]
    have := G.f0
    unfold wrap64
    omega
theorem before_l0 {l : List S83} (hl : l.length ≤ 1000) (hv : ∀ r ∈ l, 0 ≤ r.f1 ∧ r.f1 ≤ 2199023255552) : ∀ (t : List S83) (idx : Nat) (x1 x5 : Int), l.drop idx = t → idx ≤ l.length → pos t → 0 ≤ x1 → x1 ≤ 400 → 0 ≤ x5 → x5 + sumZ t * 2199023255552 ≤ 879609302220800 → sumZ t ≤ 400 → (∀ r ∈ t, 0 ≤ r.f1 ∧ r.f1 ≤ 2199023255552) →
    Ev (fun k => table_before.l0 k x1 x5 l (l.length : Int) (idx : Int)) (x5 + lsum ((valG t).take x1.toNat))
  | [], idx, x1, x5, h, hi, _, _, _, _, _, _, _ => by
    have hil : idx = l.length := by have h2 := congrArg List.length h; simp at h2; omega
    subst hil
    refine Ev.step (f := fun _ => some (x5 + lsum ((valG []).take x1.toNat))) (fun k => ?_) (Ev.now _)
    simp only [table_before.l0]
    rw [if_neg (by omega)]
    simp [valG, lsum]
  | r :: t, idx, x1, x5, h, hi, hp, h0, h1, h2, h3, h4, hv2 => by
    obtain ⟨g1, g2, _⟩ := drop_at h
    have hr := hp r (List.mem_cons_self ..)
    obtain ⟨v0, v1⟩ := hv2 r (List.mem_cons_self ..)
    have hn := sumZ_nn (pos_tail hp)
    simp only [sumZ] at h3 h4
    rw [Int.add_mul] at h3
    obtain ⟨m, hm⟩ : ∃ m, mn x1 r.f0 = m := ⟨_, rfl⟩
    have hm1 : 0 ≤ m ∧ m ≤ r.f0 ∧ m ≤ x1 := by rw [← hm, mn_eq]; omega
    have hm2 : m * r.f1 ≤ r.f0 * 2199023255552 := Int.mul_le_mul hm1.2.1 v1 v0 (by omega)
    have hm3 : 0 ≤ m * r.f1 := Int.mul_nonneg hm1.1 v0
    have hm4 : lsum ((valG (r :: t)).take x1.toNat) = m * r.f1 + lsum ((valG t).take (x1 - m).toNat) := by
      rw [valG, List.take_append, lsum_app, List.take_replicate, lsum_rep, List.length_replicate]
      have e1 : ((min x1.toNat r.f0.toNat : Nat) : Int) = m := by rw [← hm, mn_eq]; omega
      have e2 : x1.toNat - r.f0.toNat = (x1 - m).toNat := by rw [← hm, mn_eq]; omega
      rw [e1, e2]
    have ih := before_l0 hl hv t (idx + 1) (x1 - m) (x5 + m * r.f1) g2 g1 (pos_tail hp) (by omega) (by omega) (by omega) (by omega) (by omega) (fun y hy => hv2 y (List.mem_cons_of_mem _ hy))
    rw [hm4, ← Int.add_assoc]
    refine Ev.step (fun k => ?_) ih
    simp only [table_before.l0]
    rw [if_pos (by omega), if_pos (by omega), if_pos (by omega), rdT_drop h, hm, w_next (by omega)]
    rw [show wrap64 (x1 - m) = x1 - m by unfold wrap64; omega, show wrap64 (x5 + wrap64 (m * r.f1)) = x5 + m * r.f1 by generalize m * r.f1 = P at *; unfold wrap64; omega]
theorem value_l0 {l : List S83} (hl : l.length ≤ 1000) : ∀ (t : List S83) (idx : Nat) (x1 : Int), l.drop idx = t → idx ≤ l.length → pos t → 0 ≤ x1 → x1 ≤ 400 → Ev (fun k => table_value.l0 k x1 l (l.length : Int) (idx : Int)) ((valG t).getD x1.toNat 0)
  | [], idx, x1, h, hi, _, _, _ => by
    have hil : idx = l.length := by have h2 := congrArg List.length h; simp at h2; omega
    subst hil
    refine Ev.step (f := fun _ => some 0) (fun k => ?_) (by simpa [valG] using Ev.now (0 : Int))
    simp only [table_value.l0]
    rw [if_neg (by omega)]
  | r :: t, idx, x1, h, hi, hp, h0, h1 => by
    obtain ⟨g1, g2, _⟩ := drop_at h
    have hr := hp r (List.mem_cons_self ..)
    by_cases hc : x1 < r.f0
    · have e : (valG (r :: t)).getD x1.toNat 0 = r.f1 := by
        rw [valG, List.getD_eq_getElem?_getD, List.getElem?_append_left (by simp; omega), List.getElem?_replicate, if_pos (by omega)]
        rfl
      rw [e]
      refine Ev.step (f := fun _ => some r.f1) (fun k => ?_) (Ev.now _)
      simp only [table_value.l0]
      rw [if_pos (by omega), if_pos (by omega), if_pos (by omega), rdT_drop h, if_pos hc]
    · have e : (valG (r :: t)).getD x1.toNat 0 = (valG t).getD (x1 - r.f0).toNat 0 := by
        rw [valG, List.getD_eq_getElem?_getD, List.getD_eq_getElem?_getD, List.getElem?_append_right (by simp; omega), List.length_replicate, show x1.toNat - r.f0.toNat = (x1 - r.f0).toNat by omega]
      rw [e]
      refine Ev.step (fun k => ?_) (value_l0 hl t (idx + 1) (x1 - r.f0) g2 g1 (pos_tail hp) (by omega) (by omega))
      simp only [table_value.l0]
      rw [if_pos (by omega), if_pos (by omega), if_pos (by omega), rdT_drop h, if_neg hc, w_next (by omega), show wrap64 (x1 - r.f0) = x1 - r.f0 by unfold wrap64; omega]
end Go.Proofs.Ytmbhafgnmdfjhaa.PureT
namespace Go.Proofs.Ytmbhafgnmdfjhaa.PureT
open Go.RowKit Go.Proofs.Ytmbhafgnmdfjhaa.QTab Go.Proofs.YtmbhafgnmdfjhaaW.PrintWords Go.Proofs.YtmbhafgnmdfjhaaW.PrintMore Go.Proofs.YtmbhafgnmdfjhaaV
theorem size_f {t : S27} (G : GoodT t) {i : Nat} (hi : i < tmN t) : table_size.f t.f0 t.f1 t.f2 t.f3 t.f4 t.f5 t.f6 t.f7 t.f8 t.f9 t.f10 (i : Int) = some (szF t i) := by
  unfold table_size.f szF
  by_cases h : t.f5 = 0
  · have := G.z0 h
    rw [if_neg (by omega), if_pos (by omega), if_pos (by omega), if_pos h]
  · have := G.z1
    rw [if_pos (by omega), if_neg h]
theorem pl_front (t : S27) (p : Int) (a : Nat) : ∀ m, plW t p a (m + 1) = wrap64 (plW t p a m + szF t (a + m)) := fun _ => rfl
theorem look_l2 {t : S27} (G : GoodT t) {i a : Nat} (hi : i < tmN t) (ha : a ≤ i) (x0 x1 x2 x3 p x5 : Int) (x6 : Bool) (x7 : List Int) : ∀ d n, n + d = i - a →
    Ev (fun k => table_Lookup.l2 k (i : Int) ((a + n : Nat) : Int) t.f0 t.f1 t.f2 t.f3 t.f4 t.f5 t.f6 t.f7 t.f8 t.f9 t.f10 x0 x1 x2 x3 (plW t p a n) x5 x6 x7) (x0, x1, x2, x3, plW t p a (i - a), x5, x6, x7, 0)
  | 0, n, h => by
    refine Ev.step (f := fun _ => some (x0, x1, x2, x3, plW t p a (i - a), x5, x6, x7, 0)) (fun k => ?_) (Ev.now _)
    simp only [table_Lookup.l2]
    rw [if_neg (by omega), show n = i - a by omega]
  | d + 1, n, h => by
    refine Ev.step (fun k => ?_) (look_l2 G hi ha x0 x1 x2 x3 p x5 x6 x7 d (n + 1) (by omega))
    have hn := G.n
    simp only [table_Lookup.l2]
    rw [if_pos (by omega), size_f G (show a + n < tmN t by omega), Option.bind_some, w_next (by omega)]
    rfl
theorem ic_ev {t : S27} (G : GoodT t) (L : Lens t) {c : Nat} (hc : c < t.f8.length) : Ev (fun k => table_inChunk.f k t.f0 t.f1 t.f2 t.f3 t.f4 t.f5 t.f6 t.f7 t.f8 t.f9 t.f10 (c : Int)) (rd (msL t) c) := by
  have hok := G.ok
  unfold chOk at hok
  rw [Bool.and_eq_true] at hok
  rw [rd_msL hc]
  exact inChunk_ev t L.l7 L.l8 hok.2 (by
        have h := beq_iff_eq.mp hok.1
        rw [decide_eq_true (show 0 < t.f8.length by omega)] at h
        exact of_decide_eq_true h) c hc
theorem pre_le {t : S27} (G : GoodT t) {c : Nat} (hc : c ≤ t.f8.length) : 0 ≤ preL (msL t) c ∧ preL (msL t) c ≤ tmN t := by
  have hnn : ∀ x ∈ msL t, 0 ≤ x := fun x hx => (G.ms x hx).1
  refine ⟨preL_nn hnn c, ?_⟩
  have h1 := preL_mono hnn (show c ≤ (msL t).length by rw [msL_len]; exact hc)
  rw [preL_all, G.sum] at h1
  exact h1
theorem ck_facts {t : S27} (G : GoodT t) {i : Nat} (hi : i < tmN t) : ckOf (msL t) i < t.f8.length ∧ preL (msL t) (ckOf (msL t) i) ≤ i ∧ (i : Int) < preL (msL t) (ckOf (msL t) i + 1) := by
  have h := ck_ex (L := msL t) (i := (i : Int)) (fun x hx => (G.ms x hx).1) (by omega) (by rw [G.sum]; omega)
  rw [msL_len] at h
  exact h
theorem look_l1 {t : S27} (G : GoodT t) (L : Lens t) {i : Nat} (hi : i < tmN t) (x0 x1 x2 x3 : Int) (x6 : Bool) (x7 : List Int) : ∀ d c, c + d = ckOf (msL t) i →
    Ev (fun k => table_Lookup.l1 k (i : Int) (preL (msL t) c) t.f0 t.f1 t.f2 t.f3 t.f4 t.f5 t.f6 t.f7 t.f8 t.f9 t.f10 x0 x1 x2 x3 0 (c : Int) x6 x7) (x0, x1, x2, x3, plAt t (msL t) i, (ckOf (msL t) i : Int), x6, x7, 0)
  | 0, c, h => by
    obtain ⟨c1, c2, c3⟩ := ck_facts G hi
    have hn := G.n
    rw [Nat.add_zero] at h
    have hc := ic_ev G L (show c < t.f8.length by omega)
    have hs := preL_next (L := msL t) (c := c) (by rw [msL_len]; omega)
    obtain ⟨p0, p1⟩ := pre_le G (show c ≤ t.f8.length by omega)
    obtain ⟨p2, p3⟩ := pre_le G (show c + 1 ≤ t.f8.length by omega)
    rw [← h] at c2 c3
    have h2 := look_l2 G hi (a := (preL (msL t) c).toNat) (by omega) x0 x1 x2 x3 (rd t.f8 (c : Int)) (c : Int) x6 x7 (i - (preL (msL t) c).toNat) 0 (by omega)
    rw [Nat.add_zero] at h2
    rw [show (((preL (msL t) c).toNat : Nat) : Int) = preL (msL t) c by omega] at h2
    have e : plAt t (msL t) i = plW t (rd t.f8 (c : Int)) (preL (msL t) c).toNat (i - (preL (msL t) c).toNat) := by unfold plAt; rw [← h]
    rw [e, ← h]
    refine Ev.step (fun k => ?_) (Ev.bind hc (f := fun k v => if (wrap64 (preL (msL t) c + v)) ≤ (i : Int) then ((table_inChunk.f k t.f0 t.f1 t.f2 t.f3 t.f4 t.f5 t.f6 t.f7 t.f8 t.f9 t.f10 (c : Int)).bind fun t260 => (table_Lookup.l1 k (i : Int) (wrap64 (preL (msL t) c + t260)) t.f0 t.f1 t.f2 t.f3 t.f4 t.f5 t.f6 t.f7 t.f8 t.f9 t.f10 x0 x1 x2 x3 0 (wrap64 ((c : Int) + 1)) x6 x7)) else (table_Lookup.l2 k (i : Int) (preL (msL t) c) t.f0 t.f1 t.f2 t.f3 t.f4 t.f5 t.f6 t.f7 t.f8 t.f9 t.f10 x0 x1 x2 x3 (rd t.f8 (c : Int)) (c : Int) x6 x7)) ?_)
    · rw [table_Lookup.l1, if_pos (show (0 : Int) ≤ (c : Int) by omega), if_pos (show (c : Int) < (t.f8.length : Int) by omega)]
    · exact Ev.congr (fun k => if_neg (by rw [← hs]; unfold wrap64; omega)) h2
  | d + 1, c, h => by
    obtain ⟨c1, c2, c3⟩ := ck_facts G hi
    have hn := G.n
    have hc := ic_ev G L (show c < t.f8.length by omega)
    have hs := preL_next (L := msL t) (c := c) (by rw [msL_len]; omega)
    have hm := preL_mono (L := msL t) (fun x hx => (G.ms x hx).1) (show c + 1 ≤ ckOf (msL t) i by omega)
    obtain ⟨p0, p1⟩ := pre_le G (show c ≤ t.f8.length by omega)
    obtain ⟨p2, p3⟩ := pre_le G (show c + 1 ≤ t.f8.length by omega)
    have ih := look_l1 G L hi x0 x1 x2 x3 x6 x7 d (c + 1) (by omega)
    have l8 := L.l8
    refine Ev.step (fun k => ?_) (Ev.bind hc (f := fun k v => if (wrap64 (preL (msL t) c + v)) ≤ (i : Int) then ((table_inChunk.f k t.f0 t.f1 t.f2 t.f3 t.f4 t.f5 t.f6 t.f7 t.f8 t.f9 t.f10 (c : Int)).bind fun t260 => (table_Lookup.l1 k (i : Int) (wrap64 (preL (msL t) c + t260)) t.f0 t.f1 t.f2 t.f3 t.f4 t.f5 t.f6 t.f7 t.f8 t.f9 t.f10 x0 x1 x2 x3 0 (wrap64 ((c : Int) + 1)) x6 x7)) else (table_Lookup.l2 k (i : Int) (preL (msL t) c) t.f0 t.f1 t.f2 t.f3 t.f4 t.f5 t.f6 t.f7 t.f8 t.f9 t.f10 x0 x1 x2 x3 (rd t.f8 (c : Int)) (c : Int) x6 x7)) ?_)
    · rw [table_Lookup.l1, if_pos (show (0 : Int) ≤ (c : Int) by omega), if_pos (show (c : Int) < (t.f8.length : Int) by omega)]
    · have ew : wrap64 (preL (msL t) c + rd (msL t) c) = preL (msL t) (c + 1) := by rw [← hs]; unfold wrap64; omega
      refine Ev.congr (fun k => if_pos (by rw [ew]; omega)) (Ev.bind hc ?_)
      rw [ew, w_next (by omega)]
      exact ih
theorem look_l0 {t : S27} (i : Nat) (x0 x1 x2 x3 : Int) (x6 : Bool) {z : Int × Int × Int × Int × Int × Int × Bool × List Int × Int} {dl : List Int} (hl : dl.length ≤ 4)
    (hz : Ev (fun k => table_Lookup.j4 k (i : Int) t.f0 t.f1 t.f2 t.f3 t.f4 t.f5 t.f6 t.f7 t.f8 t.f9 t.f10 x0 x1 x2 x3 0 0 x6 (dl.map (fun d => wrap64 ((i : Int) - d)))) z) : ∀ (r : List Int) (j : Nat), dl.drop j = r → j ≤ dl.length →
    Ev (fun k => table_Lookup.l0 k (i : Int) dl (dl.length : Int) (j : Int) t.f0 t.f1 t.f2 t.f3 t.f4 t.f5 t.f6 t.f7 t.f8 t.f9 t.f10 x0 x1 x2 x3 0 0 x6 ((dl.take j).map (fun d => wrap64 ((i : Int) - d)))) z
  | [], j, h, hj => by
    have hil : j = dl.length := by have h2 := congrArg List.length h; simp at h2; omega
    subst hil
    refine Ev.step (fun k => ?_) hz
    simp only [table_Lookup.l0]
    rw [if_neg (by omega), List.take_length]
  | x :: r, j, h, hj => by
    obtain ⟨g1, g2, _⟩ := drop_at h
    have hx := rd_drop h
    refine Ev.step (fun k => ?_) (look_l0 i x0 x1 x2 x3 x6 hl hz r (j + 1) g2 g1)
    simp only [table_Lookup.l0]
    rw [if_pos (by omega), if_pos (by omega), if_pos (by omega), if_pos (by simp only [List.length_map, List.length_take]; omega), hx, w_next (by omega), List.take_add_one, List.map_append]
    have : dl[j]?.toList = [x] := by rw [List.getElem?_eq_getElem g1]; have := List.drop_eq_getElem_cons g1; rw [h] at this; injection this with h1 h2; simp [h1]
    rw [this]
    rfl
theorem look_j4 {t : S27} (G : GoodT t) (L : Lens t) {i : Nat} (hi : i < tmN t) (x0 x1 x2 x3 : Int) (x6 : Bool) (x7 : List Int) :
    Ev (fun k => table_Lookup.j4 k (i : Int) t.f0 t.f1 t.f2 t.f3 t.f4 t.f5 t.f6 t.f7 t.f8 t.f9 t.f10 x0 x1 x2 x3 0 0 x6 x7) (x0, x1, x2, x3, plAt t (msL t) i, (ckOf (msL t) i : Int), x6, x7, 0) := by
  have h := look_l1 G L hi x0 x1 x2 x3 x6 x7 (ckOf (msL t) i) 0 (by omega)
  rw [preL_zero] at h
  exact Ev.step (fun k => by rw [table_Lookup.j4]; rfl) h
theorem look_j2 {t : S27} (G : GoodT t) (L : Lens t) {i : Nat} (hi : i < tmN t) (x0 x1 x2 x3 : Int) (x6 : Bool) :
    Ev (fun k => table_Lookup.j2 k (i : Int) t.f0 t.f1 t.f2 t.f3 t.f4 t.f5 t.f6 t.f7 t.f8 t.f9 t.f10 x0 x1 x2 x3 0 0 x6) (x0, x1, x2, x3, plAt t (msL t) i, (ckOf (msL t) i : Int), x6, depF t i, 0) := by
  have h4 := look_j4 G L hi x0 x1 x2 x3 x6 (depF t i)
  by_cases h10 : 0 < t.f10.length
  · have e10 := G.dn h10
    have ed0 : depF t i = (rd_L3 t.f10 i).map (fun d => wrap64 ((i : Int) - d)) := by rw [depF, if_pos h10]
    rw [ed0] at h4 ⊢
    have h0 := look_l0 (t := t) i x0 x1 x2 x3 x6 (dep_len G (show i < t.f10.length by omega)) h4 (rd_L3 t.f10 i) 0 rfl (Nat.zero_le _)
    rw [List.take_zero, List.map_nil] at h0
    exact Ev.step (fun k => by rw [table_Lookup.j2, if_pos (by omega), if_pos (by omega), if_pos (by omega)]; rfl) h0
  · have ed0 : depF t i = [] := by rw [depF, if_neg h10]
    rw [ed0] at h4 ⊢
    exact Ev.step (fun k => by rw [table_Lookup.j2, if_neg (by omega)]) h4
theorem look_j1 {t : S27} (G : GoodT t) (L : Lens t) {i : Nat} (hi : i < tmN t) (x0 x1 x2 x3 : Int) :
    Ev (fun k => table_Lookup.j1 k (i : Int) t.f0 t.f1 t.f2 t.f3 t.f4 t.f5 t.f6 t.f7 t.f8 t.f9 t.f10 x0 x1 x2 x3 0 0 t.f4) (x0, x1, x2, x3, plAt t (msL t) i, (ckOf (msL t) i : Int), (t.f4 || fndF t i), depF t i, 0) := by
  obtain ⟨ps, hbs⟩ := bs_ev L.l3 (sync_inc t.f3 0 G.sy).2 ((i : Int) + 1)
  have hn := G.n
  have w1 : wrap64 ((i : Int) + 1) = (i : Int) + 1 := by unfold wrap64; omega
  refine Ev.step (fun k => ?_) (Ev.bind hbs (f := fun k bt => if bt.2 = true then (table_Lookup.j2 k (i : Int) t.f0 t.f1 t.f2 t.f3 t.f4 t.f5 t.f6 t.f7 t.f8 t.f9 t.f10 x0 x1 x2 x3 0 0 true) else (table_Lookup.j2 k (i : Int) t.f0 t.f1 t.f2 t.f3 t.f4 t.f5 t.f6 t.f7 t.f8 t.f9 t.f10 x0 x1 x2 x3 0 0 t.f4)) ?_)
  · rw [table_Lookup.j1, w1]
  · cases hf : decide ((i : Int) + 1 ∈ t.f3) with
    | true =>
      have := look_j2 G L hi x0 x1 x2 x3 true
      rw [show fndF t i = true from hf, Bool.or_true]
      exact Ev.congr (fun k => if_pos rfl) this
    | false =>
      have := look_j2 G L hi x0 x1 x2 x3 t.f4
      rw [show fndF t i = false from hf, Bool.or_false]
      exact Ev.congr (fun k => if_neg (by simp)) this
theorem look_j0 {t : S27} (G : GoodT t) (L : Lens t) {i : Nat} (hi : i < tmN t) :
    Ev (fun k => table_Lookup.j0 k (i : Int) false t.f0 t.f1 t.f2 t.f3 t.f4 t.f5 t.f6 t.f7 t.f8 t.f9 t.f10) (dtsAt t.f0 (valG t.f1) i, ptsF t i, durF t i, szF t i, plAt t (msL t) i, (ckOf (msL t) i : Int), (t.f4 || fndF t i), depF t i, 0) := by
  have hn := G.n
  have l1 := L.l1; have l2 := L.l2; have l9 := L.l9
  obtain ⟨ds, d0, d1⟩ := dts_sum G i (by omega)
  have g0 := G.f0
  have hv1 : ∀ r ∈ t.f1, 0 ≤ r.f1 ∧ r.f1 ≤ 2199023255552 := by
    intro r hr
    have h := G.v1
    rw [List.any_eq_false] at h
    have h1 := h r hr
    unfold badR at h1
    simp only [Bool.or_eq_true, not_or, Bool.not_eq_true, Bool.not_eq_false', decide_eq_true_eq] at h1
    exact h1.2
  obtain ⟨_, e1, _⟩ := tc_eq G.p1
  have hN : sumZ t.f1 = (tmN t : Int) := by rw [e1 (by have := G.tot; omega), G.tot]
  have hbef : Ev (fun k => table_before.f k t.f1 (i : Int)) (lsum ((valG t.f1).take i)) := by
    have := before_l0 (l := t.f1) l1 hv1 t.f1 0 (i : Int) 0 rfl (Nat.zero_le _) G.p1 (by omega) (by omega) (by omega) (by omega) (by omega) hv1
    rw [Int.zero_add, Int.toNat_natCast] at this
    exact this
  have hva : ∀ l : List S83, l.length ≤ 1000 → pos l → Ev (fun k => table_value.f k l (i : Int)) (rd (valG l) i) := fun l hl hp => value_l0 hl l 0 (i : Int) rfl (Nat.zero_le _) hp (by omega) (by omega)
  have ed : wrap64 (t.f0 + lsum ((valG t.f1).take i)) = dtsAt t.f0 (valG t.f1) i := by rw [ds]; unfold wrap64; omega
  have ep : wrap64 (dtsAt t.f0 (valG t.f1) i + rd (valG t.f2) i) = ptsF t i := by
    unfold ptsF
    by_cases h2 : 0 < t.f2.length
    · rw [if_pos (by rw [(G.o h2).1]; omega)]
    · rw [valG_nil h2, if_neg (by simp), show rd ([] : List Int) (i : Int) = 0 from rfl, ds]
      unfold wrap64; omega
  by_cases h9 : 0 < t.f9.length
  · have eu : durF t i = rd (valG t.f9) i := by rw [durF, if_pos (by rw [(G.d h9).1]; omega)]
    rw [eu]
    have h := look_j1 G L hi (dtsAt t.f0 (valG t.f1) i) (ptsF t i) (rd (valG t.f9) i) (szF t i)
    rw [← ep, ← ed] at h ⊢
    refine Ev.step (f := fun k => (table_before.f k t.f1 (i : Int)).bind fun a => (table_value.f k t.f1 (i : Int)).bind fun b => (table_value.f k t.f2 (i : Int)).bind fun c => (table_value.f k t.f9 (i : Int)).bind fun e => table_Lookup.j1 k (i : Int) t.f0 t.f1 t.f2 t.f3 t.f4 t.f5 t.f6 t.f7 t.f8 t.f9 t.f10 (wrap64 (t.f0 + a)) (wrap64 (wrap64 (t.f0 + a) + c)) e (szF t i) 0 0 t.f4) (fun k => ?_) (Ev.bind hbef (Ev.bind (hva t.f1 l1 G.p1) (Ev.bind (hva t.f2 l2 G.p2) (Ev.bind (hva t.f9 l9 G.p9) h))))
    rw [table_Lookup.j0, if_neg (by simp), size_f G hi]
    simp only [Option.bind_some, if_pos (show (t.f9.length : Int) > 0 by omega)]
  · have eu : durF t i = rd (valG t.f1) i := by rw [durF, valG_nil h9, if_neg (by simp)]
    rw [eu]
    have h := look_j1 G L hi (dtsAt t.f0 (valG t.f1) i) (ptsF t i) (rd (valG t.f1) i) (szF t i)
    rw [← ep, ← ed] at h ⊢
    refine Ev.step (f := fun k => (table_before.f k t.f1 (i : Int)).bind fun a => (table_value.f k t.f1 (i : Int)).bind fun b => (table_value.f k t.f2 (i : Int)).bind fun c => table_Lookup.j1 k (i : Int) t.f0 t.f1 t.f2 t.f3 t.f4 t.f5 t.f6 t.f7 t.f8 t.f9 t.f10 (wrap64 (t.f0 + a)) (wrap64 (wrap64 (t.f0 + a) + c)) b (szF t i) 0 0 t.f4) (fun k => ?_) (Ev.bind hbef (Ev.bind (hva t.f1 l1 G.p1) (Ev.bind (hva t.f2 l2 G.p2) h)))
    rw [table_Lookup.j0, if_neg (by simp), size_f G hi]
    simp only [Option.bind_some, if_neg (show ¬ (t.f9.length : Int) > 0 by omega)]
theorem cnt_ev {t : S27} (L : Lens t) : Ev (fun k => table_Count.f k t.f0 t.f1 t.f2 t.f3 t.f4 t.f5 t.f6 t.f7 t.f8 t.f9 t.f10) (totG 0 t.f1) := by
  have l1 := L.l1
  unfold table_Count.f
  exact Ev.bind (total_ev (l := t.f1) (by omega)) (Ev.now _)
theorem chk_f {t : S27} (hs : smallB t = true) : table_Check.f t.f0 t.f1 t.f2 t.f3 t.f4 t.f5 t.f6 t.f7 t.f8 t.f9 t.f10 = some (chkV t) := if_pos hs
def Look := Int × Int × Int × Int × Int × Int × Bool × List Int × Int
theorem look_ev {t : S27} (hs : smallB t = true) (i : Int) : Ev (fun k => table_Lookup.f k t.f0 t.f1 t.f2 t.f3 t.f4 t.f5 t.f6 t.f7 t.f8 t.f9 t.f10 i) ((lkF t i).1.f0, (lkF t i).1.f1, (lkF t i).1.f2, (lkF t i).1.f3, (lkF t i).1.f4, (lkF t i).1.f5, (lkF t i).1.f6, (lkF t i).1.f7, (lkF t i).2) := by
  obtain ⟨L, -, -⟩ := lens_of hs
  unfold table_Lookup.f
  rw [chk_f hs]
  simp only [Option.bind_some]
  by_cases h0 : chkV t = 0
  · have G := good_of h0
    have hn := G.n
    refine Ev.congr (fun k => if_pos h0) ?_
    by_cases h1 : i < 0
    · have e : lkF t i = (z48, 1) := by rw [lkF, if_pos h0, if_pos (.inl h1)]
      rw [e]
      refine Ev.congr (fun k => if_pos h1) (Ev.step (f := fun _ => some (0, 0, 0, 0, 0, 0, false, [], 1)) (fun k => ?_) (Ev.now _))
      rw [table_Lookup.j0, if_pos rfl]
    · refine Ev.congr (fun k => if_neg h1) (Ev.bind (cnt_ev L) ?_)
      rw [G.tot]
      by_cases h2 : (tmN t : Int) ≤ i
      · have e : lkF t i = (z48, 1) := by rw [lkF, if_pos h0, if_pos (.inr h2)]
        rw [e, decide_eq_true (show i ≥ (tmN t : Int) from h2)]
        refine Ev.step (f := fun _ => some (0, 0, 0, 0, 0, 0, false, [], 1)) (fun k => ?_) (Ev.now _)
        rw [table_Lookup.j0, if_pos rfl]
      · obtain ⟨m, rfl⟩ : ∃ m : Nat, i = (m : Int) := ⟨i.toNat, by omega⟩
        have e : lkF t (m : Int) = (entT t m, 0) := by rw [lkF, if_pos h0, if_neg (by omega), Int.toNat_natCast]
        rw [e, decide_eq_false (show ¬ ((m : Int) ≥ (tmN t : Int)) from h2)]
        exact look_j0 G L (by omega)
  · have e : lkF t i = (z48, chkV t) := by rw [lkF, if_neg h0]
    rw [e]
    exact Ev.congr (fun k => if_neg h0) (Ev.now _)
end Go.Proofs.Ytmbhafgnmdfjhaa.PureT
