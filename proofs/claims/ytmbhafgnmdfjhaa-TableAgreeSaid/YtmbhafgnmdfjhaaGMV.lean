/- A text of the pure side: table.Lookup and the document's Lookup tell the entry of a sample. No condition. A text of the pure side: table.Lookup tells the entry of a sample. No condition. A text of the pure side: the last sample at a decode time, by the program and by the document. No condition. A text of the pure side: the last sync sample at most one, by the program and by the document. No condition. A text of the pure side: what a chunk has, by the program. No condition. A text of the pure side: each sample by itself is what the whole says of it. No condition. -/
import Derived.Test.YtmbhafgnmdfjhaaGMU
import Derived.Test.YtmbhafgnmdfjhaaQTabzGLookup
import Derived.Test.YtmbhafgnmdfjhaaGME
import Derived.Test.YtmbhafgnmdfjhaaQTabzGAt
import Derived.Test.YtmbhafgnmdfjhaaQTabzGBefore
import Derived.Test.YtmbhafgnmdfjhaaQTabzGChunk
namespace Go.Proofs.Ytmbhafgnmdfjhaa.PureT
open Go.RowKit Go.Proofs.Ytmbhafgnmdfjhaa.QTab Go.Proofs.YtmbhafgnmdfjhaaW.PrintWords Go.Proofs.YtmbhafgnmdfjhaaW.PrintMore Go.Proofs.YtmbhafgnmdfjhaaV
theorem before_l0 {l : List S83} (hl : l.length ≤ 1000) (hv : ∀ r ∈ l, 0 ≤ r.f1 ∧ r.f1 ≤ 2199023255552) : ∀ (t : List S83) (idx : Nat) (x1 x5 : Int), l.drop idx = t → idx ≤ l.length → pos t → 0 ≤ x1 → x1 ≤ 400 → 0 ≤ x5 → x5 + sumZ t * 2199023255552 ≤ 879609302220800 → sumZ t ≤ 400 → (∀ r ∈ t, 0 ≤ r.f1 ∧ r.f1 ≤ 2199023255552) →
    Ev (fun k => table_before.l0 k x1 x5 l (l.length : Int) (idx : Int)) (x5 + lsum ((valG t).take x1.toNat))
  | [], idx, x1, x5, h, hi, _, _, _, _, _, _, _ => by
    have hil : idx = l.length := by have h2 := congrArg List.length h; simp at h2; omega
    subst hil
    refine Ev.step (f := fun _ => some (x5 + lsum ((valG []).take x1.toNat))) (fun k => ?_) (Ev.now _)
    simp only [table_before.l0]
    rw [if_neg (by omega)]
    simp [valG, lsum]
  | r :: t, idx, x1, x5, h, hi, hp, h0, h1, h2, h3, h4, hv2 => by
    obtain ⟨g1, g2, _⟩ := drop_at h
    have hr := hp r (List.mem_cons_self ..)
    obtain ⟨v0, v1⟩ := hv2 r (List.mem_cons_self ..)
    have hn := sumZ_nn (pos_tail hp)
    simp only [sumZ] at h3 h4
    rw [Int.add_mul] at h3
    obtain ⟨m, hm⟩ : ∃ m, mn x1 r.f0 = m := ⟨_, rfl⟩
    have hm1 : 0 ≤ m ∧ m ≤ r.f0 ∧ m ≤ x1 := by rw [← hm, mn_eq]; omega
    have hm2 : m * r.f1 ≤ r.f0 * 2199023255552 := Int.mul_le_mul hm1.2.1 v1 v0 (by omega)
    have hm3 : 0 ≤ m * r.f1 := Int.mul_nonneg hm1.1 v0
    have hm4 : lsum ((valG (r :: t)).take x1.toNat) = m * r.f1 + lsum ((valG t).take (x1 - m).toNat) := by
      rw [valG, List.take_append, lsum_app, List.take_replicate, lsum_rep, List.length_replicate]
      have e1 : ((min x1.toNat r.f0.toNat : Nat) : Int) = m := by rw [← hm, mn_eq]; omega
      have e2 : x1.toNat - r.f0.toNat = (x1 - m).toNat := by rw [← hm, mn_eq]; omega
      rw [e1, e2]
    have ih := before_l0 hl hv t (idx + 1) (x1 - m) (x5 + m * r.f1) g2 g1 (pos_tail hp) (by omega) (by omega) (by omega) (by omega) (by omega) (fun y hy => hv2 y (List.mem_cons_of_mem _ hy))
    rw [hm4, ← Int.add_assoc]
    refine Ev.step (fun k => ?_) ih
    simp only [table_before.l0]
    rw [if_pos (by omega), if_pos (by omega), if_pos (by omega), rdT_drop h, hm, w_next (by omega)]
    rw [show wrap64 (x1 - m) = x1 - m by unfold wrap64; omega, show wrap64 (x5 + wrap64 (m * r.f1)) = x5 + m * r.f1 by generalize m * r.f1 = P at *; unfold wrap64; omega]
theorem value_l0 {l : List S83} (hl : l.length ≤ 1000) : ∀ (t : List S83) (idx : Nat) (x1 : Int), l.drop idx = t → idx ≤ l.length → pos t → 0 ≤ x1 → x1 ≤ 400 → Ev (fun k => table_value.l0 k x1 l (l.length : Int) (idx : Int)) ((valG t).getD x1.toNat 0)
  | [], idx, x1, h, hi, _, _, _ => by
    have hil : idx = l.length := by have h2 := congrArg List.length h; simp at h2; omega
    subst hil
    refine Ev.step (f := fun _ => some 0) (fun k => ?_) (by simpa [valG] using Ev.now (0 : Int))
    simp only [table_value.l0]
    rw [if_neg (by omega)]
  | r :: t, idx, x1, h, hi, hp, h0, h1 => by
    obtain ⟨g1, g2, _⟩ := drop_at h
    have hr := hp r (List.mem_cons_self ..)
    by_cases hc : x1 < r.f0
    · have e : (valG (r :: t)).getD x1.toNat 0 = r.f1 := by
        rw [valG, List.getD_eq_getElem?_getD, List.getElem?_append_left (by simp; omega), List.getElem?_replicate, if_pos (by omega)]
        rfl
      rw [e]
      refine Ev.step (f := fun _ => some r.f1) (fun k => ?_) (Ev.now _)
      simp only [table_value.l0]
      rw [if_pos (by omega), if_pos (by omega), if_pos (by omega), rdT_drop h, if_pos hc]
    · have e : (valG (r :: t)).getD x1.toNat 0 = (valG t).getD (x1 - r.f0).toNat 0 := by
        rw [valG, List.getD_eq_getElem?_getD, List.getD_eq_getElem?_getD, List.getElem?_append_right (by simp; omega), List.length_replicate, show x1.toNat - r.f0.toNat = (x1 - r.f0).toNat by omega]
      rw [e]
      refine Ev.step (fun k => ?_) (value_l0 hl t (idx + 1) (x1 - r.f0) g2 g1 (pos_tail hp) (by omega) (by omega))
      simp only [table_value.l0]
      rw [if_pos (by omega), if_pos (by omega), if_pos (by omega), rdT_drop h, if_neg hc, w_next (by omega), show wrap64 (x1 - r.f0) = x1 - r.f0 by unfold wrap64; omega]
end Go.Proofs.Ytmbhafgnmdfjhaa.PureT
namespace Go.Proofs.Ytmbhafgnmdfjhaa.PureT
open Go.RowKit Go.Proofs.Ytmbhafgnmdfjhaa.QTab Go.Proofs.YtmbhafgnmdfjhaaW.PrintWords Go.Proofs.YtmbhafgnmdfjhaaW.PrintMore Go.Proofs.YtmbhafgnmdfjhaaV
theorem look_l2 {t : S27} (G : GoodT t) {i a : Nat} (hi : i < tmN t) (ha : a ≤ i) (x0 x1 x2 x3 p x5 : Int) (x6 : Bool) (x7 : List Int) : ∀ d n, n + d = i - a →
    Ev (fun k => table_Lookup.l2 k (i : Int) ((a + n : Nat) : Int) t.f0 t.f1 t.f2 t.f3 t.f4 t.f5 t.f6 t.f7 t.f8 t.f9 t.f10 x0 x1 x2 x3 (plW t p a n) x5 x6 x7) (x0, x1, x2, x3, plW t p a (i - a), x5, x6, x7, 0)
  | 0, n, h => by
    refine Ev.step (f := fun _ => some (x0, x1, x2, x3, plW t p a (i - a), x5, x6, x7, 0)) (fun k => ?_) (Ev.now _)
    simp only [table_Lookup.l2]
    rw [if_neg (by omega), show n = i - a by omega]
  | d + 1, n, h => by
    refine Ev.step (fun k => ?_) (look_l2 G hi ha x0 x1 x2 x3 p x5 x6 x7 d (n + 1) (by omega))
    have hn := G.n
    simp only [table_Lookup.l2]
    rw [if_pos (by omega), size_f G (show a + n < tmN t by omega), Option.bind_some, w_next (by omega)]
    rfl
theorem look_l1 {t : S27} (G : GoodT t) (L : Lens t) {i : Nat} (hi : i < tmN t) (x0 x1 x2 x3 : Int) (x6 : Bool) (x7 : List Int) : ∀ d c, c + d = ckOf (msL t) i →
    Ev (fun k => table_Lookup.l1 k (i : Int) (preL (msL t) c) t.f0 t.f1 t.f2 t.f3 t.f4 t.f5 t.f6 t.f7 t.f8 t.f9 t.f10 x0 x1 x2 x3 0 (c : Int) x6 x7) (x0, x1, x2, x3, plAt t (msL t) i, (ckOf (msL t) i : Int), x6, x7, 0)
  | 0, c, h => by
    obtain ⟨c1, c2, c3⟩ := ck_facts G hi
    have hn := G.n
    rw [Nat.add_zero] at h
    have hc := ic_ev G L (show c < t.f8.length by omega)
    have hs := preL_next (L := msL t) (c := c) (by rw [msL_len]; omega)
    obtain ⟨p0, p1⟩ := pre_le G (show c ≤ t.f8.length by omega)
    obtain ⟨p2, p3⟩ := pre_le G (show c + 1 ≤ t.f8.length by omega)
    rw [← h] at c2 c3
    have h2 := look_l2 G hi (a := (preL (msL t) c).toNat) (by omega) x0 x1 x2 x3 (rd t.f8 (c : Int)) (c : Int) x6 x7 (i - (preL (msL t) c).toNat) 0 (by omega)
    rw [Nat.add_zero] at h2
    rw [show (((preL (msL t) c).toNat : Nat) : Int) = preL (msL t) c by omega] at h2
    have e : plAt t (msL t) i = plW t (rd t.f8 (c : Int)) (preL (msL t) c).toNat (i - (preL (msL t) c).toNat) := by unfold plAt; rw [← h]
    rw [e, ← h]
    refine Ev.step (fun k => ?_) (Ev.bind hc (f := fun k v => if (wrap64 (preL (msL t) c + v)) ≤ (i : Int) then ((table_inChunk.f k t.f0 t.f1 t.f2 t.f3 t.f4 t.f5 t.f6 t.f7 t.f8 t.f9 t.f10 (c : Int)).bind fun t260 => (table_Lookup.l1 k (i : Int) (wrap64 (preL (msL t) c + t260)) t.f0 t.f1 t.f2 t.f3 t.f4 t.f5 t.f6 t.f7 t.f8 t.f9 t.f10 x0 x1 x2 x3 0 (wrap64 ((c : Int) + 1)) x6 x7)) else (table_Lookup.l2 k (i : Int) (preL (msL t) c) t.f0 t.f1 t.f2 t.f3 t.f4 t.f5 t.f6 t.f7 t.f8 t.f9 t.f10 x0 x1 x2 x3 (rd t.f8 (c : Int)) (c : Int) x6 x7)) ?_)
    · rw [table_Lookup.l1, if_pos (show (0 : Int) ≤ (c : Int) by omega), if_pos (show (c : Int) < (t.f8.length : Int) by omega)]
    · exact Ev.congr (fun k => if_neg (by rw [← hs]; unfold wrap64; omega)) h2
  | d + 1, c, h => by
    obtain ⟨c1, c2, c3⟩ := ck_facts G hi
    have hn := G.n
    have hc := ic_ev G L (show c < t.f8.length by omega)
    have hs := preL_next (L := msL t) (c := c) (by rw [msL_len]; omega)
    have hm := preL_mono (L := msL t) (fun x hx => (G.ms x hx).1) (show c + 1 ≤ ckOf (msL t) i by omega)
    obtain ⟨p0, p1⟩ := pre_le G (show c ≤ t.f8.length by omega)
    obtain ⟨p2, p3⟩ := pre_le G (show c + 1 ≤ t.f8.length by omega)
    have ih := look_l1 G L hi x0 x1 x2 x3 x6 x7 d (c + 1) (by omega)
    have l8 := L.l8
    refine Ev.step (fun k => ?_) (Ev.bind hc (f := fun k v => if (wrap64 (preL (msL t) c + v)) ≤ (i : Int) then ((table_inChunk.f k t.f0 t.f1 t.f2 t.f3 t.f4 t.f5 t.f6 t.f7 t.f8 t.f9 t.f10 (c : Int)).bind fun t260 => (table_Lookup.l1 k (i : Int) (wrap64 (preL (msL t) c + t260)) t.f0 t.f1 t.f2 t.f3 t.f4 t.f5 t.f6 t.f7 t.f8 t.f9 t.f10 x0 x1 x2 x3 0 (wrap64 ((c : Int) + 1)) x6 x7)) else (table_Lookup.l2 k (i : Int) (preL (msL t) c) t.f0 t.f1 t.f2 t.f3 t.f4 t.f5 t.f6 t.f7 t.f8 t.f9 t.f10 x0 x1 x2 x3 (rd t.f8 (c : Int)) (c : Int) x6 x7)) ?_)
    · rw [table_Lookup.l1, if_pos (show (0 : Int) ≤ (c : Int) by omega), if_pos (show (c : Int) < (t.f8.length : Int) by omega)]
    · have ew : wrap64 (preL (msL t) c + rd (msL t) c) = preL (msL t) (c + 1) := by rw [← hs]; unfold wrap64; omega
      refine Ev.congr (fun k => if_pos (by rw [ew]; omega)) (Ev.bind hc ?_)
      rw [ew, w_next (by omega)]
      exact ih
theorem look_l0 {t : S27} (i : Nat) (x0 x1 x2 x3 : Int) (x6 : Bool) {z : Int × Int × Int × Int × Int × Int × Bool × List Int × Int} {dl : List Int} (hl : dl.length ≤ 4)
    (hz : Ev (fun k => table_Lookup.j4 k (i : Int) t.f0 t.f1 t.f2 t.f3 t.f4 t.f5 t.f6 t.f7 t.f8 t.f9 t.f10 x0 x1 x2 x3 0 0 x6 (dl.map (fun d => wrap64 ((i : Int) - d)))) z) : ∀ (r : List Int) (j : Nat), dl.drop j = r → j ≤ dl.length →
    Ev (fun k => table_Lookup.l0 k (i : Int) dl (dl.length : Int) (j : Int) t.f0 t.f1 t.f2 t.f3 t.f4 t.f5 t.f6 t.f7 t.f8 t.f9 t.f10 x0 x1 x2 x3 0 0 x6 ((dl.take j).map (fun d => wrap64 ((i : Int) - d)))) z
  | [], j, h, hj => by
    have hil : j = dl.length := by have h2 := congrArg List.length h; simp at h2; omega
    subst hil
    refine Ev.step (fun k => ?_) hz
    simp only [table_Lookup.l0]
    rw [if_neg (by omega), List.take_length]
  | x :: r, j, h, hj => by
    obtain ⟨g1, g2, _⟩ := drop_at h
    have hx := rd_drop h
    refine Ev.step (fun k => ?_) (look_l0 i x0 x1 x2 x3 x6 hl hz r (j + 1) g2 g1)
    simp only [table_Lookup.l0]
    rw [if_pos (by omega), if_pos (by omega), if_pos (by omega), if_pos (by simp only [List.length_map, List.length_take]; omega), hx, w_next (by omega), List.take_add_one, List.map_append]
    have : dl[j]?.toList = [x] := by rw [List.getElem?_eq_getElem g1]; have := List.drop_eq_getElem_cons g1; rw [h] at this; injection this with h1 h2; simp [h1]
    rw [this]
    rfl
theorem look_j4 {t : S27} (G : GoodT t) (L : Lens t) {i : Nat} (hi : i < tmN t) (x0 x1 x2 x3 : Int) (x6 : Bool) (x7 : List Int) :
    Ev (fun k => table_Lookup.j4 k (i : Int) t.f0 t.f1 t.f2 t.f3 t.f4 t.f5 t.f6 t.f7 t.f8 t.f9 t.f10 x0 x1 x2 x3 0 0 x6 x7) (x0, x1, x2, x3, plAt t (msL t) i, (ckOf (msL t) i : Int), x6, x7, 0) := by
  have h := look_l1 G L hi x0 x1 x2 x3 x6 x7 (ckOf (msL t) i) 0 (by omega)
  rw [preL_zero] at h
  exact Ev.step (fun k => by rw [table_Lookup.j4]; rfl) h
theorem look_j2 {t : S27} (G : GoodT t) (L : Lens t) {i : Nat} (hi : i < tmN t) (x0 x1 x2 x3 : Int) (x6 : Bool) :
    Ev (fun k => table_Lookup.j2 k (i : Int) t.f0 t.f1 t.f2 t.f3 t.f4 t.f5 t.f6 t.f7 t.f8 t.f9 t.f10 x0 x1 x2 x3 0 0 x6) (x0, x1, x2, x3, plAt t (msL t) i, (ckOf (msL t) i : Int), x6, depF t i, 0) := by
  have h4 := look_j4 G L hi x0 x1 x2 x3 x6 (depF t i)
  by_cases h10 : 0 < t.f10.length
  · have e10 := G.dn h10
    have ed0 : depF t i = (rd_L3 t.f10 i).map (fun d => wrap64 ((i : Int) - d)) := by rw [depF, if_pos h10]
    rw [ed0] at h4 ⊢
    have h0 := look_l0 (t := t) i x0 x1 x2 x3 x6 (dep_len G (show i < t.f10.length by omega)) h4 (rd_L3 t.f10 i) 0 rfl (Nat.zero_le _)
    rw [List.take_zero, List.map_nil] at h0
    exact Ev.step (fun k => by rw [table_Lookup.j2, if_pos (by omega), if_pos (by omega), if_pos (by omega)]; rfl) h0
  · have ed0 : depF t i = [] := by rw [depF, if_neg h10]
    rw [ed0] at h4 ⊢
    exact Ev.step (fun k => by rw [table_Lookup.j2, if_neg (by omega)]) h4
theorem look_j1 {t : S27} (G : GoodT t) (L : Lens t) {i : Nat} (hi : i < tmN t) (x0 x1 x2 x3 : Int) :
    Ev (fun k => table_Lookup.j1 k (i : Int) t.f0 t.f1 t.f2 t.f3 t.f4 t.f5 t.f6 t.f7 t.f8 t.f9 t.f10 x0 x1 x2 x3 0 0 t.f4) (x0, x1, x2, x3, plAt t (msL t) i, (ckOf (msL t) i : Int), (t.f4 || fndF t i), depF t i, 0) := by
  obtain ⟨ps, hbs⟩ := bs_ev L.l3 (sync_inc t.f3 0 G.sy).2 ((i : Int) + 1)
  have hn := G.n
  have w1 : wrap64 ((i : Int) + 1) = (i : Int) + 1 := by unfold wrap64; omega
  refine Ev.step (fun k => ?_) (Ev.bind hbs (f := fun k bt => if bt.2 = true then (table_Lookup.j2 k (i : Int) t.f0 t.f1 t.f2 t.f3 t.f4 t.f5 t.f6 t.f7 t.f8 t.f9 t.f10 x0 x1 x2 x3 0 0 true) else (table_Lookup.j2 k (i : Int) t.f0 t.f1 t.f2 t.f3 t.f4 t.f5 t.f6 t.f7 t.f8 t.f9 t.f10 x0 x1 x2 x3 0 0 t.f4)) ?_)
  · rw [table_Lookup.j1, w1]
  · cases hf : decide ((i : Int) + 1 ∈ t.f3) with
    | true =>
      have := look_j2 G L hi x0 x1 x2 x3 true
      rw [show fndF t i = true from hf, Bool.or_true]
      exact Ev.congr (fun k => if_pos rfl) this
    | false =>
      have := look_j2 G L hi x0 x1 x2 x3 t.f4
      rw [show fndF t i = false from hf, Bool.or_false]
      exact Ev.congr (fun k => if_neg (by simp)) this
theorem look_j0 {t : S27} (G : GoodT t) (L : Lens t) {i : Nat} (hi : i < tmN t) :
    Ev (fun k => table_Lookup.j0 k (i : Int) false t.f0 t.f1 t.f2 t.f3 t.f4 t.f5 t.f6 t.f7 t.f8 t.f9 t.f10) (dtsAt t.f0 (valG t.f1) i, ptsF t i, durF t i, szF t i, plAt t (msL t) i, (ckOf (msL t) i : Int), (t.f4 || fndF t i), depF t i, 0) := by
  have hn := G.n
  have l1 := L.l1; have l2 := L.l2; have l9 := L.l9
  obtain ⟨ds, d0, d1⟩ := dts_sum G i (by omega)
  have g0 := G.f0
  have hv1 : ∀ r ∈ t.f1, 0 ≤ r.f1 ∧ r.f1 ≤ 2199023255552 := by
    intro r hr
    have h := G.v1
    rw [List.any_eq_false] at h
    have h1 := h r hr
    unfold badR at h1
    simp only [Bool.or_eq_true, not_or, Bool.not_eq_true, Bool.not_eq_false', decide_eq_true_eq] at h1
    exact h1.2
  obtain ⟨_, e1, _⟩ := tc_eq G.p1
  have hN : sumZ t.f1 = (tmN t : Int) := by rw [e1 (by have := G.tot; omega), G.tot]
  have hbef : Ev (fun k => table_before.f k t.f1 (i : Int)) (lsum ((valG t.f1).take i)) := by
    have := before_l0 (l := t.f1) l1 hv1 t.f1 0 (i : Int) 0 rfl (Nat.zero_le _) G.p1 (by omega) (by omega) (by omega) (by omega) (by omega) hv1
    rw [Int.zero_add, Int.toNat_natCast] at this
    exact this
  have hva : ∀ l : List S83, l.length ≤ 1000 → pos l → Ev (fun k => table_value.f k l (i : Int)) (rd (valG l) i) := fun l hl hp => value_l0 hl l 0 (i : Int) rfl (Nat.zero_le _) hp (by omega) (by omega)
  have ed : wrap64 (t.f0 + lsum ((valG t.f1).take i)) = dtsAt t.f0 (valG t.f1) i := by rw [ds]; unfold wrap64; omega
  have ep : wrap64 (dtsAt t.f0 (valG t.f1) i + rd (valG t.f2) i) = ptsF t i := by
    unfold ptsF
    by_cases h2 : 0 < t.f2.length
    · rw [if_pos (by rw [(G.o h2).1]; omega)]
    · rw [valG_nil h2, if_neg (by simp), show rd ([] : List Int) (i : Int) = 0 from rfl, ds]
      unfold wrap64; omega
  by_cases h9 : 0 < t.f9.length
  · have eu : durF t i = rd (valG t.f9) i := by rw [durF, if_pos (by rw [(G.d h9).1]; omega)]
    rw [eu]
    have h := look_j1 G L hi (dtsAt t.f0 (valG t.f1) i) (ptsF t i) (rd (valG t.f9) i) (szF t i)
    rw [← ep, ← ed] at h ⊢
    refine Ev.step (f := fun k => (table_before.f k t.f1 (i : Int)).bind fun a => (table_value.f k t.f1 (i : Int)).bind fun b => (table_value.f k t.f2 (i : Int)).bind fun c => (table_value.f k t.f9 (i : Int)).bind fun e => table_Lookup.j1 k (i : Int) t.f0 t.f1 t.f2 t.f3 t.f4 t.f5 t.f6 t.f7 t.f8 t.f9 t.f10 (wrap64 (t.f0 + a)) (wrap64 (wrap64 (t.f0 + a) + c)) e (szF t i) 0 0 t.f4) (fun k => ?_) (Ev.bind hbef (Ev.bind (hva t.f1 l1 G.p1) (Ev.bind (hva t.f2 l2 G.p2) (Ev.bind (hva t.f9 l9 G.p9) h))))
    rw [table_Lookup.j0, if_neg (by simp), size_f G hi]
    simp only [Option.bind_some, if_pos (show (t.f9.length : Int) > 0 by omega)]
  · have eu : durF t i = rd (valG t.f1) i := by rw [durF, valG_nil h9, if_neg (by simp)]
    rw [eu]
    have h := look_j1 G L hi (dtsAt t.f0 (valG t.f1) i) (ptsF t i) (rd (valG t.f1) i) (szF t i)
    rw [← ep, ← ed] at h ⊢
    refine Ev.step (f := fun k => (table_before.f k t.f1 (i : Int)).bind fun a => (table_value.f k t.f1 (i : Int)).bind fun b => (table_value.f k t.f2 (i : Int)).bind fun c => table_Lookup.j1 k (i : Int) t.f0 t.f1 t.f2 t.f3 t.f4 t.f5 t.f6 t.f7 t.f8 t.f9 t.f10 (wrap64 (t.f0 + a)) (wrap64 (wrap64 (t.f0 + a) + c)) b (szF t i) 0 0 t.f4) (fun k => ?_) (Ev.bind hbef (Ev.bind (hva t.f1 l1 G.p1) (Ev.bind (hva t.f2 l2 G.p2) h)))
    rw [table_Lookup.j0, if_neg (by simp), size_f G hi]
    simp only [Option.bind_some, if_neg (show ¬ (t.f9.length : Int) > 0 by omega)]
theorem look_ev {t : S27} (hs : smallB t = true) (i : Int) : Ev (fun k => table_Lookup.f k t.f0 t.f1 t.f2 t.f3 t.f4 t.f5 t.f6 t.f7 t.f8 t.f9 t.f10 i) ((lkF t i).1.f0, (lkF t i).1.f1, (lkF t i).1.f2, (lkF t i).1.f3, (lkF t i).1.f4, (lkF t i).1.f5, (lkF t i).1.f6, (lkF t i).1.f7, (lkF t i).2) := by
  obtain ⟨L, -, -⟩ := lens_of hs
  unfold table_Lookup.f
  rw [chk_f hs]
  simp only [Option.bind_some]
  by_cases h0 : chkV t = 0
  · have G := good_of h0
    have hn := G.n
    refine Ev.congr (fun k => if_pos h0) ?_
    by_cases h1 : i < 0
    · have e : lkF t i = (z48, 1) := by rw [lkF, if_pos h0, if_pos (.inl h1)]
      rw [e]
      refine Ev.congr (fun k => if_pos h1) (Ev.step (f := fun _ => some (0, 0, 0, 0, 0, 0, false, [], 1)) (fun k => ?_) (Ev.now _))
      rw [table_Lookup.j0, if_pos rfl]
    · refine Ev.congr (fun k => if_neg h1) (Ev.bind (cnt_ev L) ?_)
      rw [G.tot]
      by_cases h2 : (tmN t : Int) ≤ i
      · have e : lkF t i = (z48, 1) := by rw [lkF, if_pos h0, if_pos (.inr h2)]
        rw [e, decide_eq_true (show i ≥ (tmN t : Int) from h2)]
        refine Ev.step (f := fun _ => some (0, 0, 0, 0, 0, 0, false, [], 1)) (fun k => ?_) (Ev.now _)
        rw [table_Lookup.j0, if_pos rfl]
      · obtain ⟨m, rfl⟩ : ∃ m : Nat, i = (m : Int) := ⟨i.toNat, by omega⟩
        have e : lkF t (m : Int) = (entT t m, 0) := by rw [lkF, if_pos h0, if_neg (by omega), Int.toNat_natCast]
        rw [e, decide_eq_false (show ¬ ((m : Int) ≥ (tmN t : Int)) from h2)]
        exact look_j0 G L (by omega)
  · have e : lkF t i = (z48, chkV t) := by rw [lkF, if_neg h0]
    rw [e]
    exact Ev.congr (fun k => if_neg h0) (Ev.now _)
end Go.Proofs.Ytmbhafgnmdfjhaa.PureT
namespace Go.Proofs.Ytmbhafgnmdfjhaa.PureT
open Go.RowKit Go.Proofs.Ytmbhafgnmdfjhaa.QTab Go.Proofs.YtmbhafgnmdfjhaaW.PrintWords Go.Proofs.YtmbhafgnmdfjhaaW.PrintMore Go.Proofs.YtmbhafgnmdfjhaaV
/-! the program -/
theorem at_l1 {t : S27} {dts c v : Int} {z : Int × Int} (hc : c ≤ 400) {N : Int} (hN : N ≤ 400) {i : Nat} : ∀ (m : Nat) (j : Nat) (a now : Int) (rest : List Int), (j : Int) + m = c → -1 ≤ a → a + m + rest.length + 1 = N →
    z = (atG dts a now (List.replicate m v ++ rest), 0) →
    (∀ a' now', -1 ≤ a' → a' + rest.length + 1 = N → z = (atG dts a' now' rest, 0) → Ev (fun k => table_At.l0 k dts a' now' N t.f1 (t.f1.length : Int) (wrap64 ((i : Int) + 1))) z) →
    Ev (fun k => table_At.l1 k dts a now N t.f1 (t.f1.length : Int) (i : Int) c (j : Int) c v) z
  | 0, j, a, now, rest, hj, ha, hn, hz, hk => by
    refine Ev.step (fun k => ?_) (hk a now ha (by omega) (by simpa using hz))
    simp only [table_At.l1]
    rw [if_neg (by omega)]
  | m + 1, j, a, now, rest, hj, ha, hn, hz, hk => by
    rw [List.replicate_succ, List.cons_append, atG] at hz
    by_cases h1 : now > dts
    · rw [if_pos h1] at hz
      refine Ev.step (f := fun _ => some z) (fun k => ?_) (Ev.now _)
      simp only [table_At.l1]
      rw [if_pos (by omega), if_pos h1, hz]
    · rw [if_neg h1] at hz
      have ih := at_l1 (t := t) (dts := dts) (c := c) (v := v) (z := z) hc hN (i := i) m (j + 1) (a + 1) (wrap64 (now + v)) rest (by omega) (by omega) (by omega) hz hk
      refine Ev.step (fun k => ?_) ih
      have e1 : wrap64 (a + 1) = a + 1 := by unfold wrap64; omega
      simp only [table_At.l1]
      rw [if_pos (by omega), if_neg h1, e1, if_neg (by omega), w_next (by omega)]
theorem at_l0 {t : S27} (hl : t.f1.length ≤ 1000) {dts : Int} {z : Int × Int} {N : Int} (hN : N ≤ 400) : ∀ (r : List S83) (i : Nat) (a now : Int), t.f1.drop i = r → i ≤ t.f1.length → pos r → sumZ r ≤ 400 → -1 ≤ a → a + (valG r).length + 1 = N →
    z = (atG dts a now (valG r), 0) → Ev (fun k => table_At.l0 k dts a now N t.f1 (t.f1.length : Int) (i : Int)) z
  | [], i, a, now, h, hi, _, _, _, _, hz => by
    have hil : i = t.f1.length := by have h2 := congrArg List.length h; simp at h2; omega
    subst hil
    refine Ev.step (f := fun _ => some z) (fun k => ?_) (Ev.now _)
    simp only [table_At.l0]
    rw [if_neg (by omega), hz]
    rfl
  | x :: r, i, a, now, h, hi, hp, hs, ha, hn, hz => by
    obtain ⟨g1, g2, _⟩ := drop_at h
    have hx := hp x (List.mem_cons_self ..)
    have hsn := sumZ_nn (pos_tail hp)
    simp only [sumZ] at hs
    rw [valG, List.length_append, List.length_replicate] at hn
    rw [valG] at hz
    have h1 := at_l1 (t := t) (dts := dts) (c := x.f0) (v := x.f1) (z := z) (by omega) hN (i := i) x.f0.toNat 0 a now (valG r) (by omega) ha (by omega) hz (fun a' now' h3 h4 h5 => by
      rw [w_next (by omega)]
      exact at_l0 hl hN r (i + 1) a' now' g2 g1 (pos_tail hp) (by omega) h3 h4 h5)
    refine Ev.step (fun k => ?_) h1
    simp only [table_At.l0]
    rw [if_pos (by omega), if_pos (by omega), if_pos (by omega), rdT_drop h]
    rfl
theorem at_ev {t : S27} (hs : smallB t = true) (dts : Int) : Ev (fun k => table_At.f k t.f0 t.f1 t.f2 t.f3 t.f4 t.f5 t.f6 t.f7 t.f8 t.f9 t.f10 dts) (atF t dts) := by
  obtain ⟨L, -, -⟩ := lens_of hs
  unfold table_At.f
  rw [chk_f hs]
  simp only [Option.bind_some]
  by_cases h0 : chkV t = 0
  · have G := good_of h0
    have hn := G.n
    obtain ⟨_, e1, _⟩ := tc_eq G.p1
    have hN : sumZ t.f1 = (tmN t : Int) := by rw [e1 (by have := G.tot; omega), G.tot]
    refine Ev.congr (fun k => if_pos h0) (Ev.bind (cnt_ev L) ?_)
    rw [G.tot, show atF t dts = (atV t dts, 0) from if_pos h0]
    exact at_l0 L.l1 (z := (atV t dts, 0)) (by omega) t.f1 0 (-1) t.f0 rfl (Nat.zero_le _) G.p1 (by omega) (by omega) (by show -1 + ((tmN t : Nat) : Int) + 1 = _; omega) rfl
  · rw [show atF t dts = (0, chkV t) from if_neg h0]
    exact Ev.congr (fun k => if_neg h0) (Ev.now _)
end Go.Proofs.Ytmbhafgnmdfjhaa.PureT
namespace Go.Proofs.Ytmbhafgnmdfjhaa.PureT
open Go.RowKit Go.Proofs.Ytmbhafgnmdfjhaa.QTab Go.Proofs.YtmbhafgnmdfjhaaW.PrintWords Go.Proofs.YtmbhafgnmdfjhaaW.PrintMore Go.Proofs.YtmbhafgnmdfjhaaV
/-! the program -/
theorem bf_bs {t : S27} (G : GoodT t) (h4 : t.f4 = false) {i p : Nat} (hp : p ≤ t.f3.length) (h1 : ∀ j : Nat, j < p → rd t.f3 j < (i : Int) + 1) (h2 : ∀ j : Nat, p ≤ j → j < t.f3.length → (i : Int) + 1 ≤ rd t.f3 j) :
    (fndF t i = true → p < t.f3.length ∧ rd t.f3 p = (i : Int) + 1) ∧ (fndF t i = false → (p = 0 → bfG (syF t) i = -1) ∧ (0 < p → bfG (syF t) i = rd t.f3 ((p - 1 : Nat) : Int) - 1)) := by
  have hsy := sync_rng (Int.le_refl 0) G.sy
  have hinc := (sync_inc t.f3 0 G.sy).2
  have hmem : ∀ j : Nat, fndF t j = true → ∃ q : Nat, q < t.f3.length ∧ rd t.f3 (q : Int) = (j : Int) + 1 := by
    intro j hj
    have hj := of_decide_eq_true hj
    obtain ⟨q, hq, hx⟩ := List.getElem_of_mem hj
    exact ⟨q, hq, by rw [← hx]; simp [rd, List.getD_eq_getElem?_getD, List.getElem?_eq_getElem hq]⟩
  have es : ∀ j, syF t j = fndF t j := fun j => by rw [syF, h4, Bool.false_or]
  refine ⟨fun hf => ?_, fun hf => ⟨fun h0 => ?_, fun h0 => ?_⟩⟩
  · obtain ⟨q, hq, hx⟩ := hmem i hf
    have : q = p := by
      rcases Nat.lt_trichotomy q p with h | h | h
      · have := h1 q h; omega
      · exact h
      · have h5 := hinc p q h hq
        have h6 := h2 p (Nat.le_refl _) (by omega)
        omega
    rw [this] at hx hq
    exact ⟨hq, hx⟩
  · refine bfG_no i (fun j hj => ?_)
    rw [es]
    cases hf2 : fndF t j with
    | false => rfl
    | true =>
      obtain ⟨q, hq, hx⟩ := hmem j hf2
      have := h2 q (by omega) hq
      have hji : j = i := by omega
      rw [hji, hf] at hf2
      cases hf2
  · obtain ⟨s0, hs0, hs1⟩ : ∃ s0 : Nat, rd t.f3 ((p - 1 : Nat) : Int) = (s0 : Int) + 1 ∧ s0 < tmN t := by
      have := hsy _ (rd_mem (l := t.f3) (i := p - 1) (by omega))
      exact ⟨(rd t.f3 ((p - 1 : Nat) : Int) - 1).toNat, by omega, by omega⟩
    have hle := h1 (p - 1) (by omega)
    have hf1 : syF t s0 = true := by
      rw [es]
      refine decide_eq_true ?_
      rw [← hs0]
      exact rd_mem (by omega)
    have := bfG_at (f := syF t) hf1 (i - s0) (fun j hj hj2 => by
      rw [es]
      cases hf2 : fndF t j with
      | false => rfl
      | true =>
        obtain ⟨q, hq, hx⟩ := hmem j hf2
        by_cases hqp : q < p
        · have : q ≤ p - 1 := by omega
          by_cases hq1 : q = p - 1
          · rw [hq1, hs0] at hx; omega
          · have h9 := hinc q (p - 1) (by omega) (by omega)
            omega
        · have := h2 q (by omega) hq
          have hji : j = i := by omega
          rw [hji, hf] at hf2
          cases hf2)
    rw [show s0 + (i - s0) = i by omega] at this
    rw [this, hs0]
    omega
theorem bf_j0 {t : S27} (G : GoodT t) (L : Lens t) {i : Nat} (hi : i < tmN t) : Ev (fun k => table_Before.j0 k (i : Int) false t.f0 t.f1 t.f2 t.f3 t.f4 t.f5 t.f6 t.f7 t.f8 t.f9 t.f10) (bfG (syF t) i, 0) := by
  have hn := G.n
  have l3 := L.l3
  cases h4 : t.f4 with
  | true =>
    refine Ev.step (f := fun _ => some ((i : Int), 0)) (fun k => ?_) (by rw [bfG_yes (show syF t i = true by rw [syF, h4, Bool.true_or])]; exact Ev.now _)
    rw [table_Before.j0, if_neg (by simp), if_pos rfl]
  | false =>
    obtain ⟨p, ⟨hp, h1, h2⟩, hbs⟩ := bsp_ev l3 (sync_inc t.f3 0 G.sy).2 ((i : Int) + 1)
    have w1 : wrap64 ((i : Int) + 1) = (i : Int) + 1 := by unfold wrap64; omega
    obtain ⟨hA, hB⟩ := bf_bs G h4 hp h1 h2
    have hsy := sync_rng (Int.le_refl 0) G.sy
    refine Ev.step (fun k => ?_) (Ev.bind hbs (f := fun k bt321 => (if bt321.2=true then (if bt321.1 < 0 then (some ((-1),0)) else (if 0≤bt321.1 then (if bt321.1 < (t.f3.length:Int) then (some (wrap64 ((rd t.f3 bt321.1) - 1),0)) else (none)) else (none))) else (if (wrap64 (bt321.1 - 1)) < 0 then (some ((-1),0)) else (if 0≤(wrap64 (bt321.1 - 1)) then (if (wrap64 (bt321.1 - 1)) < (t.f3.length:Int) then (some (wrap64 ((rd t.f3 (wrap64 (bt321.1 - 1))) - 1),0)) else (none)) else (none))))) ?_)
    · rw [table_Before.j0, if_neg (by simp), if_neg (by simp), w1]
    · cases hf : decide ((i : Int) + 1 ∈ t.f3) with
      | true =>
        obtain ⟨a1, a2⟩ := hA hf
        refine Ev.congr (f := fun _ => some ((i : Int), 0)) (fun k => ?_) (by rw [bfG_yes (show syF t i = true by rw [syF, show fndF t i = true from hf, Bool.or_true])]; exact Ev.now _)
        rw [if_pos rfl, if_neg (by omega), if_pos (by omega), if_pos (by omega), a2, show wrap64 ((i : Int) + 1 - 1) = (i : Int) by unfold wrap64; omega]
      | false =>
        obtain ⟨b1, b2⟩ := hB hf
        by_cases hp0 : p = 0
        · rw [b1 hp0]
          refine Ev.congr (f := fun _ => some (-1, 0)) (fun k => ?_) (Ev.now _)
          rw [if_neg (by simp), if_pos (by unfold wrap64; omega)]
        · have ew : wrap64 ((p : Int) - 1) = ((p - 1 : Nat) : Int) := by unfold wrap64; omega
          have hr := hsy _ (rd_mem (l := t.f3) (i := p - 1) (by omega))
          rw [b2 (by omega)]
          refine Ev.congr (f := fun _ => some (rd t.f3 ((p - 1 : Nat) : Int) - 1, 0)) (fun k => ?_) (Ev.now _)
          rw [if_neg (by simp), ew, if_neg (by omega), if_pos (by omega), if_pos (by omega), show wrap64 (rd t.f3 ((p - 1 : Nat) : Int) - 1) = rd t.f3 ((p - 1 : Nat) : Int) - 1 by unfold wrap64; omega]
theorem bf_ev {t : S27} (hs : smallB t = true) (i : Int) : Ev (fun k => table_Before.f k t.f0 t.f1 t.f2 t.f3 t.f4 t.f5 t.f6 t.f7 t.f8 t.f9 t.f10 i) (bfF t i) := by
  obtain ⟨L, -, -⟩ := lens_of hs
  unfold table_Before.f
  rw [chk_f hs]
  simp only [Option.bind_some]
  by_cases h0 : chkV t = 0
  · have G := good_of h0
    refine Ev.congr (fun k => if_pos h0) ?_
    by_cases h1 : i < 0
    · rw [show bfF t i = (0, 1) by rw [bfF, if_pos h0, if_pos (.inl h1)]]
      refine Ev.congr (fun k => if_pos h1) (Ev.step (f := fun _ => some (0, 1)) (fun k => ?_) (Ev.now _))
      rw [table_Before.j0, if_pos rfl]
    · refine Ev.congr (fun k => if_neg h1) (Ev.bind (cnt_ev L) ?_)
      rw [G.tot]
      by_cases h2 : (tmN t : Int) ≤ i
      · rw [show bfF t i = (0, 1) by rw [bfF, if_pos h0, if_pos (.inr h2)], decide_eq_true (show i ≥ (tmN t : Int) from h2)]
        refine Ev.step (f := fun _ => some (0, 1)) (fun k => ?_) (Ev.now _)
        rw [table_Before.j0, if_pos rfl]
      · obtain ⟨m, rfl⟩ : ∃ m : Nat, i = (m : Int) := ⟨i.toNat, by omega⟩
        rw [show bfF t (m : Int) = (bfG (syF t) m, 0) by rw [bfF, if_pos h0, if_neg (by omega), Int.toNat_natCast], decide_eq_false (show ¬ ((m : Int) ≥ (tmN t : Int)) from h2)]
        exact bf_j0 G L (by omega)
  · rw [show bfF t i = (0, chkV t) by rw [bfF, if_neg h0]]
    exact Ev.congr (fun k => if_neg h0) (Ev.now _)
end Go.Proofs.Ytmbhafgnmdfjhaa.PureT
namespace Go.Proofs.Ytmbhafgnmdfjhaa.PureT
open Go.RowKit Go.Proofs.Ytmbhafgnmdfjhaa.QTab Go.Proofs.YtmbhafgnmdfjhaaW.PrintWords Go.Proofs.YtmbhafgnmdfjhaaW.PrintMore Go.Proofs.YtmbhafgnmdfjhaaV
theorem chu_l1 {t : S27} (G : GoodT t) (L : Lens t) {c a M : Nat} (hc : c < t.f8.length) (ha : a + M ≤ tmN t) : ∀ d n, n + d = M →
    Ev (fun k => table_Chunk.l1 k (c : Int) (a : Int) (M : Int) (plW t 0 a n) ((a + n : Nat) : Int) t.f0 t.f1 t.f2 t.f3 t.f4 t.f5 t.f6 t.f7 t.f8 t.f9 t.f10) ((a : Int), (M : Int), rd t.f8 c, plW t 0 a M, 0)
  | 0, n, h => by
    have hn := G.n
    have l8 := L.l8
    refine Ev.step (f := fun _ => some ((a : Int), (M : Int), rd t.f8 c, plW t 0 a M, 0)) (fun k => ?_) (Ev.now _)
    rw [table_Chunk.l1, if_neg (by unfold wrap64; omega), if_pos (by omega), if_pos (by omega), show n = M by omega]
  | d + 1, n, h => by
    have hn := G.n
    refine Ev.step (fun k => ?_) (chu_l1 G L hc ha d (n + 1) (by omega))
    rw [table_Chunk.l1, if_pos (by unfold wrap64; omega), size_f G (show a + n < tmN t by omega), Option.bind_some, w_next (by omega)]
    rfl
theorem chu_l0 {t : S27} (G : GoodT t) (L : Lens t) {c : Nat} (hc : c < t.f8.length) : ∀ d j, j + d = c →
    Ev (fun k => table_Chunk.l0 k (c : Int) (preL (msL t) j) 0 (c : Int) (j : Int) t.f0 t.f1 t.f2 t.f3 t.f4 t.f5 t.f6 t.f7 t.f8 t.f9 t.f10) (preL (msL t) c, rd (msL t) c, rd t.f8 c, plW t 0 (preL (msL t) c).toNat (rd (msL t) c).toNat, 0)
  | 0, j, h => by
    have hn := G.n
    rw [Nat.add_zero] at h
    subst h
    have hm := (G.ms _ (rd_mem (l := msL t) (i := j) (by rw [msL_len]; exact hc))).1
    obtain ⟨p0, p1⟩ := pre_le G (show j ≤ t.f8.length by omega)
    obtain ⟨p2, p3⟩ := pre_le G (show j + 1 ≤ t.f8.length by omega)
    have hs := preL_next (L := msL t) (c := j) (by rw [msL_len]; omega)
    have h1 := chu_l1 G L (a := (preL (msL t) j).toNat) (M := (rd (msL t) j).toNat) hc (by omega) (rd (msL t) j).toNat 0 (by omega)
    rw [Nat.add_zero, show (((preL (msL t) j).toNat : Nat) : Int) = preL (msL t) j by omega, show (((rd (msL t) j).toNat : Nat) : Int) = rd (msL t) j by omega] at h1
    refine Ev.step (f := fun k => (table_inChunk.f k t.f0 t.f1 t.f2 t.f3 t.f4 t.f5 t.f6 t.f7 t.f8 t.f9 t.f10 (j : Int)).bind fun v => table_Chunk.l1 k (j : Int) (preL (msL t) j) v 0 (preL (msL t) j) t.f0 t.f1 t.f2 t.f3 t.f4 t.f5 t.f6 t.f7 t.f8 t.f9 t.f10) (fun k => ?_) (Ev.bind (ic_ev G L hc) h1)
    rw [table_Chunk.l0, if_neg (by omega)]
  | d + 1, j, h => by
    have hn := G.n
    have l8 := L.l8
    obtain ⟨p0, p1⟩ := pre_le G (show j ≤ t.f8.length by omega)
    obtain ⟨p2, p3⟩ := pre_le G (show j + 1 ≤ t.f8.length by omega)
    have hs := preL_next (L := msL t) (c := j) (by rw [msL_len]; omega)
    have ew : wrap64 (preL (msL t) j + rd (msL t) j) = preL (msL t) (j + 1) := by rw [← hs]; unfold wrap64; omega
    have ih := chu_l0 G L hc d (j + 1) (by omega)
    rw [← ew] at ih
    refine Ev.step (f := fun k => (table_inChunk.f k t.f0 t.f1 t.f2 t.f3 t.f4 t.f5 t.f6 t.f7 t.f8 t.f9 t.f10 (j : Int)).bind fun v => table_Chunk.l0 k (c : Int) (wrap64 (preL (msL t) j + v)) 0 (c : Int) ((j + 1 : Nat) : Int) t.f0 t.f1 t.f2 t.f3 t.f4 t.f5 t.f6 t.f7 t.f8 t.f9 t.f10) (fun k => ?_) (Ev.bind (ic_ev G L (by omega)) ih)
    rw [table_Chunk.l0, if_pos (by omega), w_next (by omega)]
theorem chu_ev {t : S27} (hs : smallB t = true) (c : Int) : Ev (fun k => table_Chunk.f k t.f0 t.f1 t.f2 t.f3 t.f4 t.f5 t.f6 t.f7 t.f8 t.f9 t.f10 c) ((chuF t c).1, (chuF t c).2.1, (chuF t c).2.2.1, (chuF t c).2.2.2.1, (chuF t c).2.2.2.2) := by
  obtain ⟨L, -, -⟩ := lens_of hs
  unfold table_Chunk.f
  rw [chk_f hs]
  simp only [Option.bind_some]
  by_cases h0 : chkV t = 0
  · have G := good_of h0
    refine Ev.congr (fun k => if_pos h0) ?_
    by_cases h1 : c < 0
    · rw [show chuF t c = (0, 0, 0, 0, 1) by rw [chuF, if_pos h0, if_pos (.inl h1)]]
      refine Ev.congr (fun k => if_pos h1) (Ev.step (f := fun _ => some (0, 0, 0, 0, 1)) (fun k => ?_) (Ev.now _))
      rw [table_Chunk.j0, if_pos rfl]
    · refine Ev.congr (fun k => if_neg h1) ?_
      by_cases h2 : (t.f8.length : Int) ≤ c
      · rw [show chuF t c = (0, 0, 0, 0, 1) by rw [chuF, if_pos h0, if_pos (.inr h2)], decide_eq_true (show c ≥ (t.f8.length : Int) from h2)]
        refine Ev.step (f := fun _ => some (0, 0, 0, 0, 1)) (fun k => ?_) (Ev.now _)
        rw [table_Chunk.j0, if_pos rfl]
      · obtain ⟨m, rfl⟩ : ∃ m : Nat, c = (m : Int) := ⟨c.toNat, by omega⟩
        rw [show chuF t (m : Int) = (preL (msL t) m, rd (msL t) m, rd t.f8 m, plW t 0 (preL (msL t) m).toNat (rd (msL t) m).toNat, 0) by rw [chuF, if_pos h0, if_neg (by omega), Int.toNat_natCast], decide_eq_false (show ¬ ((m : Int) ≥ (t.f8.length : Int)) from h2)]
        have h := chu_l0 G L (show m < t.f8.length by omega) m 0 (by omega)
        rw [preL_zero] at h
        refine Ev.step (fun k => ?_) h
        rw [table_Chunk.j0, if_neg (by simp)]
        rfl
  · rw [show chuF t c = (0, 0, 0, 0, chkV t) by rw [chuF, if_neg h0]]
    exact Ev.congr (fun k => if_neg h0) (Ev.now _)
end Go.Proofs.Ytmbhafgnmdfjhaa.PureT
namespace Go.Proofs.Ytmbhafgnmdfjhaa.PureT
open Go.RowKit Go.Proofs.Ytmbhafgnmdfjhaa.QTab Go.Proofs.YtmbhafgnmdfjhaaW.PrintWords Go.Proofs.YtmbhafgnmdfjhaaW.PrintMore Go.Proofs.YtmbhafgnmdfjhaaV
/-! times -/
theorem dts_lt {t : S27} (G : GoodT t) {i : Nat} (h : i + 1 < tmN t) : dtsAt t.f0 (valG t.f1) i < dtsAt t.f0 (valG t.f1) (i + 1) := by
  rw [(dts_sum G i (by omega)).1, (dts_sum G (i + 1) (by omega)).1, lsum_next (show i < (valG t.f1).length from by show i < tmN t; omega)]
  have hm := rd_mem (l := valG t.f1) (i := i) (by show i < tmN t; omega)
  have h0 := (valG_rng G.v1 _ hm).1
  have hz := G.zt
  rw [List.any_eq_false] at hz
  have hne : rd (valG t.f1) (i : Int) ≠ 0 := by
    intro he
    have hlt : i < ((valG t.f1).take (tmN t - 1)).length := by rw [List.length_take]; show i < min (tmN t - 1) (tmN t); omega
    have := hz ((valG t.f1).take (tmN t - 1))[i] (List.getElem_mem hlt)
    rw [List.getElem_take] at this
    have he2 : (valG t.f1)[i]'(by show i < tmN t; omega) = 0 := by rw [← he]; simp [rd, List.getD_eq_getElem?_getD, List.getElem?_eq_getElem (show i < (valG t.f1).length from by show i < tmN t; omega)]
    rw [he2] at this
    simp at this
  omega
theorem at_self {t : S27} (G : GoodT t) {i : Nat} (hi : i < tmN t) : ∀ d j, j + d = i → atG (dtsAt t.f0 (valG t.f1) i) ((j : Int) - 1) (dtsAt t.f0 (valG t.f1) j) ((valG t.f1).drop j) = i
  | 0, j, h => by
    have hj : j = i := by omega
    subst hj
    have hd : (valG t.f1).drop j = rd (valG t.f1) j :: (valG t.f1).drop (j + 1) := by
      rw [List.drop_eq_getElem_cons (show j < (valG t.f1).length from hi)]
      simp [rd, List.getD_eq_getElem?_getD, List.getElem?_eq_getElem (show j < (valG t.f1).length from hi)]
    rw [hd, atG, if_neg (by omega), ← dtsAt_next (show j < (valG t.f1).length from hi)]
    by_cases he : j + 1 = tmN t
    · rw [List.drop_of_length_le (show (valG t.f1).length ≤ j + 1 by show tmN t ≤ _; omega)]
      simp [atG]
    · rw [at_stop (dts_lt G (by omega))]
      omega
  | d + 1, j, h => by
    have hj : j < tmN t := by omega
    have hd : (valG t.f1).drop j = rd (valG t.f1) j :: (valG t.f1).drop (j + 1) := by
      rw [List.drop_eq_getElem_cons (show j < (valG t.f1).length from hj)]
      simp [rd, List.getD_eq_getElem?_getD, List.getElem?_eq_getElem (show j < (valG t.f1).length from hj)]
    have := dts_mono G (show j ≤ i by omega) (by omega)
    rw [hd, atG, if_neg (by omega), ← dtsAt_next (show j < (valG t.f1).length from hj)]
    have ih := at_self G hi d (j + 1) (by omega)
    rw [show (((j + 1 : Nat) : Int) - 1) = (j : Int) - 1 + 1 by omega] at ih
    exact ih
theorem agr_at {t : S27} (h0 : chkV t = 0) {i : Nat} (hi : i < tmN t) : atF t (dtsAt t.f0 (valG t.f1) i) = ((i : Int), 0) := by
  rw [atF, if_pos h0, atV]
  have := at_self (good_of h0) hi i 0 (by omega)
  rw [show ((0 : Nat) : Int) - 1 = -1 by omega] at this
  rw [show (valG t.f1).drop 0 = valG t.f1 from rfl] at this
  rw [show dtsAt t.f0 (valG t.f1) 0 = t.f0 from rfl] at this
  rw [this]
theorem agr_look {t : S27} (h0 : chkV t = 0) {i : Nat} (hi : i < tmN t) : lkF t (i : Int) = (entT t i, 0) := by
  rw [lkF, if_pos h0, if_neg (by omega), Int.toNat_natCast]
/-! sync samples -/
theorem bfG_rng {f : Nat → Bool} : ∀ i, -1 ≤ bfG f i ∧ bfG f i ≤ i ∧ (∀ s : Nat, bfG f i = s → f s = true)
  | 0 => by
    rw [bfG]
    by_cases h : f 0 = true
    · rw [if_pos h]; exact ⟨by omega, by omega, fun s hs => by rw [show s = 0 by omega]; exact h⟩
    · rw [if_neg h]; exact ⟨by omega, by omega, fun s hs => by omega⟩
  | i + 1 => by
    rw [bfG]
    by_cases h : f (i + 1) = true
    · rw [if_pos h]; exact ⟨by omega, by omega, fun s hs => by rw [show s = i + 1 by omega]; exact h⟩
    · rw [if_neg h]
      obtain ⟨a, b, c⟩ := bfG_rng (f := f) i
      exact ⟨a, by omega, c⟩
theorem agr_bf {t : S27} (h0 : chkV t = 0) {i : Nat} (hi : i < tmN t) : bfF t (i : Int) = (bfG (syF t) i, 0) := by
  rw [bfF, if_pos h0, if_neg (by omega), Int.toNat_natCast]
/-! chunks -/
theorem szF_rng {t : S27} (G : GoodT t) {i : Nat} (hi : i < tmN t) : 0 ≤ szF t i ∧ szF t i ≤ 65536 := by
  unfold szF
  by_cases h : t.f5 = 0
  · rw [if_pos h]
    exact G.sz _ (rd_mem (by rw [G.z0 h]; exact hi))
  · rw [if_neg h]; exact G.z1
theorem plW_rng {t : S27} (G : GoodT t) {p : Int} (hp : 0 ≤ p ∧ p ≤ 1048576) {a : Nat} : ∀ m, a + m ≤ tmN t → p ≤ plW t p a m ∧ plW t p a m ≤ p + m * 65536
  | 0, _ => by rw [plW]; omega
  | m + 1, h => by
    obtain ⟨h1, h2⟩ := plW_rng G hp (a := a) m (by omega)
    have hs := szF_rng G (show a + m < tmN t by omega)
    have hn := G.n
    have hm : (m : Int) * 65536 ≤ 26214400 := by omega
    rw [plW]
    unfold wrap64
    omega
theorem agr_chunk {t : S27} (h0 : chkV t = 0) {i : Nat} (hi : i < tmN t) : ∃ F M pl by' : Int, chuF t (ckOf (msL t) (i : Int) : Int) = (F, M, pl, by', 0) ∧ F ≤ i ∧ (i : Int) < F + M ∧ 0 ≤ F ∧ F + M ≤ 400 ∧ pl ≤ plAt t (msL t) i ∧ ((i : Int) = F → plAt t (msL t) i = pl) := by
  have G := good_of h0
  obtain ⟨k1, k2, k3⟩ := ck_facts G hi
  have hn := G.n
  have hs := preL_next (L := msL t) (c := ckOf (msL t) i) (by rw [msL_len]; exact k1)
  obtain ⟨p0, p1⟩ := pre_le G (show ckOf (msL t) i ≤ t.f8.length by omega)
  obtain ⟨p2, p3⟩ := pre_le G (show ckOf (msL t) i + 1 ≤ t.f8.length by omega)
  have hpl := G.pl _ (rd_mem (l := t.f8) (i := ckOf (msL t) i) k1)
  have hw := plW_rng G hpl (a := (preL (msL t) (ckOf (msL t) i)).toNat) (i - (preL (msL t) (ckOf (msL t) i)).toNat) (by omega)
  refine ⟨_, _, _, _, by rw [chuF, if_pos h0, if_neg (by omega), Int.toNat_natCast], k2, by omega, p0, by omega, ?_, fun he => ?_⟩
  · unfold plAt
    exact hw.1
  · unfold plAt
    rw [show i - (preL (msL t) (ckOf (msL t) (i : Int))).toNat = 0 by omega]
    rfl
end Go.Proofs.Ytmbhafgnmdfjhaa.PureT
