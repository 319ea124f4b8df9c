/- A text of the pure side: sums of runs' values, and decode times. No condition. A text of the pure side: the last sample at a decode time. No condition. A lemma file: where a search in increasing numbers ends. No condition. A text of the pure side: the last sync sample at most one. No condition. A text of the pure side: what a chunk has. No condition. A lemma file: table.Expand tells the entries. No condition. -/
import Derived.Test.YtmbhafgnmdfjhaaGME
import Derived.Test.YtmbhafgnmdfjhaaQTabx22
import Derived.Test.YtmbhafgnmdfjhaaMP
namespace Go.Proofs.Ytmbhafgnmdfjhaa.PureT
open Go.RowKit Go.Proofs.Ytmbhafgnmdfjhaa.QTab Go.Proofs.YtmbhafgnmdfjhaaW.PrintWords Go.Proofs.YtmbhafgnmdfjhaaW.PrintMore Go.Proofs.YtmbhafgnmdfjhaaV
theorem lsum_rep (a : Int) : ∀ m : Nat, lsum (List.replicate m a) = m * a
  | 0 => by simp [lsum]
  | m + 1 => by
    rw [List.replicate_succ, lsum, lsum_rep a m, Int.natCast_succ, Int.add_mul]
    omega
theorem valG_rng {a b : Int} : ∀ {l : List S83}, l.any (badR a b) = false → ∀ x ∈ valG l, a ≤ x ∧ x ≤ b
  | [], _, x, hx => by simp [valG] at hx
  | r :: l, h, x, hx => by
    rw [List.any_cons, Bool.or_eq_false_iff] at h
    rw [valG, List.mem_append] at hx
    rcases hx with hx | hx
    · have := (List.mem_replicate.mp hx).2
      subst this
      have h1 := h.1
      unfold badR at h1
      simp only [Bool.or_eq_false_iff, Bool.not_eq_false', decide_eq_true_eq] at h1
      exact h1.2
    · exact valG_rng h.2 x hx
theorem lsum_bd {b : Int} : ∀ {l : List Int}, (∀ x ∈ l, 0 ≤ x ∧ x ≤ b) → 0 ≤ lsum l ∧ lsum l ≤ l.length * b
  | [], _ => by simp [lsum]
  | x :: l, h => by
    have h1 := h x (List.mem_cons_self ..)
    obtain ⟨a, c⟩ := lsum_bd (l := l) (fun y hy => h y (List.mem_cons_of_mem _ hy))
    rw [List.length_cons, Int.natCast_succ, Int.add_mul]
    simp only [lsum]
    omega
theorem lsum_next {l : List Int} {i : Nat} (h : i < l.length) : lsum (l.take (i + 1)) = lsum (l.take i) + rd l i := preL_next h
theorem dts_sum {t : S27} (G : GoodT t) : ∀ i, i ≤ tmN t → dtsAt t.f0 (valG t.f1) i = t.f0 + lsum ((valG t.f1).take i) ∧ 0 ≤ lsum ((valG t.f1).take i) ∧ lsum ((valG t.f1).take i) ≤ 879609302220800
  | 0, _ => by
    refine ⟨?_, ?_, ?_⟩
    · show t.f0 = t.f0 + 0; omega
    · show (0 : Int) ≤ 0; omega
    · show (0 : Int) ≤ _; omega
  | i + 1, h => by
    obtain ⟨e, _, _⟩ := dts_sum G i (by omega)
    have hb := lsum_bd (l := (valG t.f1).take (i + 1)) (b := 2199023255552) (fun x hx => valG_rng G.v1 x (List.mem_of_mem_take hx))
    have hl : (((valG t.f1).take (i + 1)).length : Int) ≤ 400 := by have := G.n; rw [List.length_take]; omega
    have hb2 : lsum ((valG t.f1).take (i + 1)) ≤ 879609302220800 := by omega
    have hn := lsum_next (l := valG t.f1) (i := i) h
    refine ⟨?_, hb.1, hb2⟩
    rw [dtsAt_next h, e, hn]
    have := G.f0
    unfold wrap64
    omega
theorem cnt_ev {t : S27} (L : Lens t) : Ev (fun k => table_Count.f k t.f0 t.f1 t.f2 t.f3 t.f4 t.f5 t.f6 t.f7 t.f8 t.f9 t.f10) (totG 0 t.f1) := by
  have l1 := L.l1
  unfold table_Count.f
  exact Ev.bind (total_ev (l := t.f1) (by omega)) (Ev.now _)
theorem chk_f {t : S27} (hs : smallB t = true) : table_Check.f t.f0 t.f1 t.f2 t.f3 t.f4 t.f5 t.f6 t.f7 t.f8 t.f9 t.f10 = some (chkV t) := if_pos hs
theorem dts_mono {t : S27} (G : GoodT t) {i j : Nat} (h : i ≤ j) (hj : j ≤ tmN t) : dtsAt t.f0 (valG t.f1) i ≤ dtsAt t.f0 (valG t.f1) j := by
  rw [(dts_sum G i (by omega)).1, (dts_sum G j hj).1]
  have := preL_mono (L := valG t.f1) (fun x hx => (valG_rng G.v1 x hx).1) h
  unfold preL at this
  omega
theorem size_f {t : S27} (G : GoodT t) {i : Nat} (hi : i < tmN t) : table_size.f t.f0 t.f1 t.f2 t.f3 t.f4 t.f5 t.f6 t.f7 t.f8 t.f9 t.f10 (i : Int) = some (szF t i) := by
  unfold table_size.f szF
  by_cases h : t.f5 = 0
  · have := G.z0 h
    rw [if_neg (by omega), if_pos (by omega), if_pos (by omega), if_pos h]
  · have := G.z1
    rw [if_pos (by omega), if_neg h]
theorem ic_ev {t : S27} (G : GoodT t) (L : Lens t) {c : Nat} (hc : c < t.f8.length) : Ev (fun k => table_inChunk.f k t.f0 t.f1 t.f2 t.f3 t.f4 t.f5 t.f6 t.f7 t.f8 t.f9 t.f10 (c : Int)) (rd (msL t) c) := by
  have hok := G.ok
  unfold chOk at hok
  rw [Bool.and_eq_true] at hok
  rw [rd_msL hc]
  exact inChunk_ev t L.l7 L.l8 hok.2 (by
        have h := beq_iff_eq.mp hok.1
        rw [decide_eq_true (show 0 < t.f8.length by omega)] at h
        exact of_decide_eq_true h) c hc
theorem pre_le {t : S27} (G : GoodT t) {c : Nat} (hc : c ≤ t.f8.length) : 0 ≤ preL (msL t) c ∧ preL (msL t) c ≤ tmN t := by
  have hnn : ∀ x ∈ msL t, 0 ≤ x := fun x hx => (G.ms x hx).1
  refine ⟨preL_nn hnn c, ?_⟩
  have h1 := preL_mono hnn (show c ≤ (msL t).length by rw [msL_len]; exact hc)
  rw [preL_all, G.sum] at h1
  exact h1
theorem ck_facts {t : S27} (G : GoodT t) {i : Nat} (hi : i < tmN t) : ckOf (msL t) i < t.f8.length ∧ preL (msL t) (ckOf (msL t) i) ≤ i ∧ (i : Int) < preL (msL t) (ckOf (msL t) i + 1) := by
  have h := ck_ex (L := msL t) (i := (i : Int)) (fun x hx => (G.ms x hx).1) (by omega) (by rw [G.sum]; omega)
  rw [msL_len] at h
  exact h
end Go.Proofs.Ytmbhafgnmdfjhaa.PureT
namespace Go.Proofs.Ytmbhafgnmdfjhaa.PureT
open Go.RowKit Go.Proofs.Ytmbhafgnmdfjhaa.QTab Go.Proofs.YtmbhafgnmdfjhaaW.PrintWords Go.Proofs.YtmbhafgnmdfjhaaW.PrintMore Go.Proofs.YtmbhafgnmdfjhaaV
/-- Sample by sample, at is the last one so far, now the next one's time. -/
def atG (dts : Int) : Int → Int → List Int → Int
  | at', _, [] => at'
  | at', now, d :: l => if now > dts then at' else atG dts (at' + 1) (wrap64 (now + d)) l
def atV (t : S27) (dts : Int) : Int := atG dts (-1) t.f0 (valG t.f1)
theorem at_stop {dts : Int} : ∀ {l : List Int} {a now : Int}, now > dts → atG dts a now l = a
  | [], _, _, _ => rfl
  | d :: l, a, now, h => by rw [atG, if_pos h]
def atF (t : S27) (dts : Int) : Int × Int := if chkV t = 0 then (atV t dts, 0) else (0, chkV t)
end Go.Proofs.Ytmbhafgnmdfjhaa.PureT
namespace Go.Proofs.Ytmbhafgnmdfjhaa.PureT
open Go.RowKit Go.Proofs.Ytmbhafgnmdfjhaa.QTab Go.Proofs.YtmbhafgnmdfjhaaW.PrintWords Go.Proofs.YtmbhafgnmdfjhaaW.PrintMore Go.Proofs.YtmbhafgnmdfjhaaV
theorem bsp_l0 {l : List Int} (hl : l.length ≤ 1000) (hs : ∀ i j : Nat, i < j → j < l.length → rd l i < rd l j) (x : Int) : ∀ (m lo hi : Nat), hi - lo ≤ m → lo ≤ hi → hi ≤ l.length → (∀ i : Nat, i < lo → rd l i < x) → (∀ i : Nat, hi ≤ i → i < l.length → x ≤ rd l i) → ∃ p : Nat, (p ≤ l.length ∧ (∀ i : Nat, i < p → rd l i < x) ∧ (∀ i : Nat, p ≤ i → i < l.length → x ≤ rd l i)) ∧ Ev (fun k => slices_BinarySearch_int_int.l0 k l x (l.length : Int) (lo : Int) (hi : Int)) ((p : Int), decide (x ∈ l)) := by
  intro m
  induction m with
  | zero =>
    intro lo hi hm h1 h2 ha hb
    have he : lo = hi := by omega
    subst he
    refine ⟨lo, ⟨h2, ha, hb⟩, ?_⟩
    by_cases h3 : lo < l.length
    · by_cases h4 : rd l (lo : Int) = x
      · have hx : decide (x ∈ l) = true := decide_eq_true (by rw [← h4]; exact rd_mem h3)
        rw [hx]
        refine Ev.step (f := fun _ => some ((lo : Int), true)) (fun k => ?_) (Ev.now _)
        simp only [slices_BinarySearch_int_int.l0]
        rw [if_neg (by omega), if_pos (by omega), if_pos (by omega), if_pos (by omega), if_pos h4]
      · have hx : decide (x ∈ l) = false := decide_eq_false (fun hm => by
          obtain ⟨i, hi, hxi⟩ := List.getElem_of_mem hm
          have hr : rd l (i : Int) = x := by rw [← hxi]; simp [rd, List.getD_eq_getElem?_getD, List.getElem?_eq_getElem hi]
          rcases Nat.lt_trichotomy i lo with h | h | h
          · have := ha i h; omega
          · subst h; exact h4 hr
          · have h5 := hs lo i h hi
            have h6 := hb lo (Nat.le_refl _) h3
            omega)
        rw [hx]
        refine Ev.step (f := fun _ => some ((lo : Int), false)) (fun k => ?_) (Ev.now _)
        simp only [slices_BinarySearch_int_int.l0]
        rw [if_neg (by omega), if_pos (by omega), if_pos (by omega), if_pos (by omega), if_neg h4]
        unfold slices_isNaN_int.f
        simp
    · have hx : decide (x ∈ l) = false := decide_eq_false (fun hm => by
        obtain ⟨i, hi, hxi⟩ := List.getElem_of_mem hm
        have hr : rd l (i : Int) = x := by rw [← hxi]; simp [rd, List.getD_eq_getElem?_getD, List.getElem?_eq_getElem hi]
        have := ha i (by omega)
        omega)
      rw [hx]
      refine Ev.step (f := fun _ => some ((lo : Int), false)) (fun k => ?_) (Ev.now _)
      simp only [slices_BinarySearch_int_int.l0]
      rw [if_neg (by omega), if_neg (by omega)]
  | succ m ih =>
    intro lo hi hm h1 h2 ha hb
    by_cases he : lo = hi
    · exact ih lo hi (by omega) h1 h2 ha hb
    · obtain ⟨h, hh⟩ : ∃ h : Nat, h = (lo + hi) / 2 := ⟨_, rfl⟩
      have hw : wrap64 ((IntKind.u64.wrap (wrap64 ((lo : Int) + (hi : Int)))) / 2) = (h : Int) := by
        have e1 : wrap64 ((lo : Int) + (hi : Int)) = ((lo + hi : Nat) : Int) := by unfold wrap64; omega
        rw [e1, IntKind.wrap_u64]
        have e2 : ((lo + hi : Nat) : Int) % 18446744073709551616 = ((lo + hi : Nat) : Int) := by omega
        rw [e2]; unfold wrap64; omega
      by_cases hlt : rd l (h : Int) < x
      · obtain ⟨p, hq, hp⟩ := ih (h + 1) hi (by omega) (by omega) h2 (fun i hi' => by
          by_cases hih : i = h
          · subst hih; exact hlt
          · have := hs i h (by omega) (by omega); omega) hb
        refine ⟨p, hq, Ev.step (fun k => ?_) hp⟩
        simp only [slices_BinarySearch_int_int.l0]
        rw [if_pos (by omega), hw, if_pos (by omega), if_pos (by omega), less_f, Option.bind_some, if_pos (decide_eq_true hlt), w_next (by omega)]
      · obtain ⟨p, hq, hp⟩ := ih lo h (by omega) (by omega) (by omega) ha (fun i hi' hil => by
          by_cases hih : i = h
          · subst hih; omega
          · have := hs h i (by omega) hil; omega)
        refine ⟨p, hq, Ev.step (fun k => ?_) hp⟩
        simp only [slices_BinarySearch_int_int.l0]
        rw [if_pos (by omega), hw, if_pos (by omega), if_pos (by omega), less_f, Option.bind_some, if_neg (by simpa using hlt)]
theorem bsp_ev {l : List Int} (hl : l.length ≤ 1000) (hs : ∀ i j : Nat, i < j → j < l.length → rd l i < rd l j) (x : Int) : ∃ p : Nat, (p ≤ l.length ∧ (∀ i : Nat, i < p → rd l i < x) ∧ (∀ i : Nat, p ≤ i → i < l.length → x ≤ rd l i)) ∧ Ev (fun k => slices_BinarySearch_int_int.f k l x) ((p : Int), decide (x ∈ l)) :=
  bsp_l0 hl hs x l.length 0 l.length (by omega) (by omega) (Nat.le_refl _) (fun i hi => absurd hi (Nat.not_lt_zero _)) (fun i h1 h2 => by omega)
end Go.Proofs.Ytmbhafgnmdfjhaa.PureT
namespace Go.Proofs.Ytmbhafgnmdfjhaa.PureT
open Go.RowKit Go.Proofs.Ytmbhafgnmdfjhaa.QTab Go.Proofs.YtmbhafgnmdfjhaaW.PrintWords Go.Proofs.YtmbhafgnmdfjhaaW.PrintMore Go.Proofs.YtmbhafgnmdfjhaaV
def bfG (f : Nat → Bool) : Nat → Int
  | 0 => if f 0 = true then 0 else -1
  | i + 1 => if f (i + 1) = true then ((i + 1 : Nat) : Int) else bfG f i
theorem bfG_yes {f : Nat → Bool} : ∀ {i : Nat}, f i = true → bfG f i = i
  | 0, h => by rw [bfG, if_pos h]; rfl
  | i + 1, h => by rw [bfG, if_pos h]
theorem bfG_at {f : Nat → Bool} {s : Nat} (hs : f s = true) : ∀ d, (∀ j, s < j → j ≤ s + d → f j = false) → bfG f (s + d) = s
  | 0, _ => bfG_yes hs
  | d + 1, h => by
    rw [show s + (d + 1) = (s + d) + 1 by omega, bfG, if_neg (by rw [h (s + d + 1) (by omega) (by omega)]; simp)]
    exact bfG_at hs d (fun j h1 h2 => h j h1 (by omega))
theorem bfG_no {f : Nat → Bool} : ∀ i, (∀ j, j ≤ i → f j = false) → bfG f i = -1
  | 0, h => by rw [bfG, if_neg (by rw [h 0 (by omega)]; simp)]
  | i + 1, h => by rw [bfG, if_neg (by rw [h (i + 1) (by omega)]; simp)]; exact bfG_no i (fun j hj => h j (by omega))
def syF (t : S27) (i : Nat) : Bool := t.f4 || fndF t i
def bfF (t : S27) (i : Int) : Int × Int := if chkV t = 0 then (if i < 0 ∨ (tmN t : Int) ≤ i then (0, 1) else (bfG (syF t) i.toNat, 0)) else (0, chkV t)
end Go.Proofs.Ytmbhafgnmdfjhaa.PureT
namespace Go.Proofs.Ytmbhafgnmdfjhaa.PureT
open Go.RowKit Go.Proofs.Ytmbhafgnmdfjhaa.QTab Go.Proofs.YtmbhafgnmdfjhaaW.PrintWords Go.Proofs.YtmbhafgnmdfjhaaW.PrintMore Go.Proofs.YtmbhafgnmdfjhaaV
def chuF (t : S27) (c : Int) : Int × Int × Int × Int × Int := if chkV t = 0 then (if c < 0 ∨ (t.f8.length : Int) ≤ c then (0, 0, 0, 0, 1) else (preL (msL t) c.toNat, rd (msL t) c.toNat, rd t.f8 c.toNat, plW t 0 (preL (msL t) c.toNat).toNat (rd (msL t) c.toNat).toNat, 0)) else (0, 0, 0, 0, chkV t)
end Go.Proofs.Ytmbhafgnmdfjhaa.PureT
namespace Go.Proofs.Ytmbhafgnmdfjhaa.QTab
open Go.Proofs.Ytmbhafgnmdfjhaa.PureT Go.RowKit Go.Proofs.YtmbhafgnmdfjhaaW.PrintWords Go.Proofs.YtmbhafgnmdfjhaaW.PrintLast Go.Proofs.YtmbhafgnmdfjhaaW.PrintMore Go.Proofs.YtmbhafgnmdfjhaaV
theorem sumM_pre (t : S27) (hn : ∀ x ∈ msL t, 0 ≤ x) : ∀ c, c ≤ t.f8.length → ((sumM (msF t.f7) c : Nat) : Int) = preL (msL t) c
  | 0, _ => rfl
  | c + 1, h => by
    have hc : c < t.f8.length := by omega
    have hs := preL_next (L := msL t) (c := c) (by rw [msL_len]; exact hc)
    rw [rd_msL hc] at hs
    have hm := hn _ (List.mem_map.mpr ⟨c, List.mem_range.mpr hc, rfl⟩ : msF t.f7 c ∈ msL t)
    have ih := sumM_pre t hn c (by omega)
    show ((sumM (msF t.f7) c + (msF t.f7 c).toNat : Nat) : Int) = _
    omega
theorem exp_ev {t : S27} (G : GoodT t) (L : Lens t) : ∃ K, table_values.f K t.f1 = some (valG t.f1) ∧ table_values.f K t.f2 = some (valG t.f2) ∧ table_values.f K t.f9 = some (valG t.f9) ∧ ExpOk K t (valG t.f1) (valG t.f2) (valG t.f9) (msF t.f7) := by
  have l1 := L.l1; have l2 := L.l2; have l9 := L.l9
  have nil : ∀ (l : List S83), ¬ 0 < l.length → sumZ l = 0 := fun l h => by rw [List.length_eq_zero_iff.mp (show l.length = 0 by omega)]; rfl
  obtain ⟨_, e1, _⟩ := tc_eq G.p1
  have hN : sumZ t.f1 = (tmN t : Int) := by rw [e1 (by have := G.tot; have := G.n; omega), G.tot]
  have hN4 := G.n
  obtain ⟨K1, h1⟩ := values_ev (l := t.f1) (by omega) G.p1 (by omega)
  have s2 : sumZ t.f2 ≤ 400 := by
    by_cases hp : 0 < t.f2.length
    · have := (G.o hp).2; omega
    · rw [nil _ hp]; omega
  have s9 : sumZ t.f9 ≤ 400 := by
    by_cases hp : 0 < t.f9.length
    · have := (G.d hp).2; omega
    · rw [nil _ hp]; omega
  obtain ⟨K2, h2⟩ := values_ev (l := t.f2) (by omega) G.p2 s2
  obtain ⟨K9, h9⟩ := values_ev (l := t.f9) (by omega) G.p9 s9
  have hok := G.ok
  unfold chOk at hok
  rw [Bool.and_eq_true] at hok
  obtain ⟨Kc, hc⟩ := ev_all (g := fun c k => table_inChunk.f k t.f0 t.f1 t.f2 t.f3 t.f4 t.f5 t.f6 t.f7 t.f8 t.f9 t.f10 (c : Int)) (r := msF t.f7) t.f8.length (fun c hc8 => inChunk_ev t L.l7 L.l8 hok.2 (by
        have h := beq_iff_eq.mp hok.1
        rw [decide_eq_true (show 0 < t.f8.length by omega)] at h
        exact of_decide_eq_true h) c hc8)
  have hnn : ∀ x ∈ msL t, 0 ≤ x := fun x hx => (G.ms x hx).1
  have hsy := sync_rng (Int.le_refl 0) G.sy
  refine ⟨K1 + K2 + K9 + Kc, h1 _ (by omega), h2 _ (by omega), h9 _ (by omega), ⟨by show tmN t ≤ 65536; omega, fun hp => ?_, fun hp => ?_, fun hz => by rw [G.z0 hz]; exact Nat.le_refl _, fun hp => by rw [G.dn hp]; exact Nat.le_refl _, fun j hj => hsy _ (rd_mem hj), fun c hc8 => hc _ (by omega) c hc8, ?_, fun i hi => by have := dep_len G hi; omega⟩⟩
  · by_cases h : 0 < t.f2.length
    · rw [(G.o h).1]; exact Nat.le_refl _
    · rw [valG_nil h] at hp; simp at hp
  · by_cases h : 0 < t.f9.length
    · rw [(G.d h).1]; exact Nat.le_refl _
    · rw [valG_nil h] at hp; simp at hp
  · have := sumM_pre t hnn t.f8.length (Nat.le_refl _)
    rw [show preL (msL t) t.f8.length = (tmN t : Int) from by rw [← msL_len t, preL_all, G.sum]] at this
    show sumM (msF t.f7) t.f8.length ≤ tmN t
    omega
theorem exp_calls {w : World} (t : S27) (d : D27) (hr : R27 w t d) (h : smallB t = true) : Calls Try.prog 25 #[.agg (cells27 t d)] w fun e w' => ∃ v, e = .returned (.tuple #[v, .int .i64 (chkV t)]) ∧ Kd.S k48 48 w' w.heap.size (fun _ => True) v (if chkV t = 0 then entsT t else []) ∧ Below w.heap.size w w' := by
  obtain ⟨L, -, -⟩ := lens_of h
  by_cases h0 : chkV t = 0
  · obtain ⟨K, h1, h2, h9, hE⟩ := exp_ev (good_of h0) L
    have := expand_calls K t d hr (chkV t) (fun w1 h1 => chk_calls t d h1 h) (valG t.f1) (valG t.f2) (valG t.f9) (msF t.f7) (fun _ => h1) (fun _ => h2) (fun _ => h9) (fun _ => hE)
    rw [outs3_eq (good_of h0)] at this
    exact this
  · have := expand_calls 0 t d hr (chkV t) (fun w1 h1 => chk_calls t d h1 h) [] [] [] (msF t.f7) (fun h => absurd h h0) (fun h => absurd h h0) (fun h => absurd h h0) (fun h => absurd h h0)
    rw [if_neg h0] at this
    rw [if_neg h0]
    exact this
end Go.Proofs.Ytmbhafgnmdfjhaa.QTab
