/- A lemma file: totals and values of runs, as numbers and lists. No condition. -/
import Derived.Test.YtmbhafgnmdfjhaaPEvo
import Derived.Test.YtmbhafgnmdfjhaaQTabx3
import Derived.Test.YtmbhafgnmdfjhaaQTabx6
import Derived.Test.YtmbhafgnmdfjhaaQTabx9
import Derived.Test.YtmbhafgnmdfjhaaQTabx11
namespace Go.Proofs.Ytmbhafgnmdfjhaa.PureT
open Go.RowKit Go.Proofs.Ytmbhafgnmdfjhaa.QTab Go.Proofs.YtmbhafgnmdfjhaaW.PrintWords Go.Proofs.YtmbhafgnmdfjhaaW.PrintMore Go.Proofs.YtmbhafgnmdfjhaaV
theorem rdT_drop {l t : List S83} {i : Nat} {x : S83} (h : l.drop i = x :: t) : rd_T83 l (i : Int) = x := by
  show l.getD (i : Int).toNat _ = x
  rw [Int.toNat_natCast]; exact (drop_at h).2.2 _
def sumZ : List S83 → Int
  | [] => 0
  | r :: t => r.f0 + sumZ t
def pos (l : List S83) : Prop := ∀ r ∈ l, 1 ≤ r.f0
theorem pos_tail {r : S83} {t : List S83} (h : pos (r :: t)) : pos t := fun x hx => h x (List.mem_cons_of_mem _ hx)
theorem sumZ_nn {l : List S83} (h : pos l) : 0 ≤ sumZ l := by
  induction l with
  | nil => exact Int.le_refl _
  | cons r t ih => have := ih (pos_tail h); have := h r (List.mem_cons_self ..); simp only [sumZ]; omega
def totG (x : Int) : List S83 → Int
  | [] => x
  | r :: t => totG (mn (wrap64 (x + mx 0 (mn r.f0 401))) 401) t
theorem total_l0 {l : List S83} (hl : l.length ≤ 9223372036854775806) : ∀ (t : List S83) (i : Nat) (x : Int), l.drop i = t → i ≤ l.length → Ev (fun k => table_total.l0 k x l (l.length : Int) (i : Int)) (totG x t)
  | [], i, x, h, hi => by
    have hil : i = l.length := by have h2 := congrArg List.length h; simp at h2; omega
    subst hil
    exact Ev.step (f := fun _ => some x) (fun k => by simp only [table_total.l0]; rw [if_neg (by omega)]) (Ev.now _)
  | r :: t, i, x, h, hi => by
    obtain ⟨h1, h2, _⟩ := drop_at h
    refine Ev.step (fun k => ?_) (total_l0 hl t (i + 1) (mn (wrap64 (x + mx 0 (mn r.f0 401))) 401) h2 h1)
    simp only [table_total.l0]
    rw [if_pos (by omega), if_pos (by omega), if_pos (by omega), rdT_drop h, w_next (by omega)]
theorem total_ev {l : List S83} (hl : l.length ≤ 9223372036854775806) : Ev (fun k => table_total.f k l) (totG 0 l) := total_l0 hl l 0 0 rfl (Nat.zero_le _)
def cntG (x : Int) : List S83 → Int
  | [] => x
  | r :: t => if r.f0 > 0 then (if r.f0 > wrap64 (400 - x) then 401 else cntG (wrap64 (x + r.f0)) t) else cntG x t
theorem counted_l0 {l : List S83} (hl : l.length ≤ 9223372036854775806) : ∀ (t : List S83) (i : Nat) (x : Int), l.drop i = t → i ≤ l.length → Ev (fun k => dioramaref09_counted.l0 k l x (i : Int)) (cntG x t)
  | [], i, x, h, hi => by
    have hil : i = l.length := by have h2 := congrArg List.length h; simp at h2; omega
    subst hil
    exact Ev.step (f := fun _ => some x) (fun k => by simp only [dioramaref09_counted.l0]; rw [if_neg (by omega)]) (Ev.now _)
  | r :: t, i, x, h, hi => by
    obtain ⟨h1, h2, _⟩ := drop_at h
    by_cases c1 : r.f0 > 0
    · by_cases c2 : r.f0 > wrap64 (400 - x)
      · refine Ev.step (f := fun _ => some 401) (fun k => ?_) (by rw [cntG, if_pos c1, if_pos c2]; exact Ev.now _)
        simp only [dioramaref09_counted.l0]
        rw [if_pos (by omega), if_pos (by omega), rdT_drop h, if_pos c1, if_pos c2]
      · have ih := counted_l0 hl t (i + 1) (wrap64 (x + r.f0)) h2 h1
        rw [cntG, if_pos c1, if_neg c2]
        refine Ev.step (fun k => ?_) ih
        simp only [dioramaref09_counted.l0]
        rw [if_pos (by omega), if_pos (by omega), rdT_drop h, if_pos c1, if_neg c2, w_next (by omega)]
    · have ih := counted_l0 hl t (i + 1) x h2 h1
      rw [cntG, if_neg c1]
      refine Ev.step (fun k => ?_) ih
      simp only [dioramaref09_counted.l0]
      rw [if_pos (by omega), if_pos (by omega), rdT_drop h, if_neg c1, w_next (by omega)]
theorem counted_ev {l : List S83} (hl : l.length ≤ 9223372036854775806) : Ev (fun k => dioramaref09_counted.f k l) (cntG 0 l) := counted_l0 hl l 0 0 rfl (Nat.zero_le _)
theorem tot_full : ∀ (l : List S83), pos l → totG 401 l = 401
  | [], _ => rfl
  | r :: t, h => by
    have h1 := h r (List.mem_cons_self ..)
    have e : mn (wrap64 (401 + mx 0 (mn r.f0 401))) 401 = 401 := by rw [mn_eq, mx_eq, mn_eq]; unfold wrap64; omega
    rw [totG, e]; exact tot_full t (pos_tail h)
theorem tot_cnt : ∀ (l : List S83) (x : Int), pos l → 0 ≤ x → x ≤ 400 → (x + sumZ l ≤ 400 → totG x l = x + sumZ l ∧ cntG x l = x + sumZ l) ∧ (400 < x + sumZ l → totG x l = 401 ∧ cntG x l = 401)
  | [], x, _, h0, h1 => ⟨fun _ => ⟨by simp [totG, sumZ], by simp [cntG, sumZ]⟩, fun h => by simp only [sumZ] at h; omega⟩
  | r :: t, x, h, h0, h1 => by
    have hr := h r (List.mem_cons_self ..)
    have hs := sumZ_nn (pos_tail h)
    have ew : wrap64 (400 - x) = 400 - x := by unfold wrap64; omega
    by_cases hc : x + r.f0 ≤ 400
    · have e : mn (wrap64 (x + mx 0 (mn r.f0 401))) 401 = x + r.f0 := by rw [mn_eq, mx_eq, mn_eq]; unfold wrap64; omega
      have e2 : wrap64 (x + r.f0) = x + r.f0 := by unfold wrap64; omega
      obtain ⟨i1, i2⟩ := tot_cnt t (x + r.f0) (pos_tail h) (by omega) hc
      rw [totG, cntG, if_pos (by omega), if_neg (by omega), e, e2]
      simp only [sumZ]
      rw [← Int.add_assoc]
      exact ⟨i1, i2⟩
    · have e : mn (wrap64 (x + mx 0 (mn r.f0 401))) 401 = 401 := by rw [mn_eq, mx_eq, mn_eq]; unfold wrap64; omega
      rw [totG, cntG, if_pos (by omega), if_pos (by omega), e, tot_full t (pos_tail h)]
      exact ⟨fun h9 => by simp only [sumZ] at h9; omega, fun _ => ⟨rfl, rfl⟩⟩
def valG : List S83 → List Int
  | [] => []
  | r :: t => List.replicate r.f0.toNat r.f1 ++ valG t
theorem valG_len : ∀ (l : List S83), pos l → ((valG l).length : Int) = sumZ l
  | [], _ => rfl
  | r :: t, h => by
    have := h r (List.mem_cons_self ..)
    have ih := valG_len t (pos_tail h)
    simp only [valG, sumZ, List.length_append, List.length_replicate]
    omega
theorem valG_append : ∀ (l m : List S83), valG (l ++ m) = valG l ++ valG m
  | [], m => rfl
  | r :: t, m => by simp only [List.cons_append, valG, valG_append t m, List.append_assoc]
theorem rep_f {v c : Int} (h1 : 1 ≤ c) (h2 : c ≤ 400) : slices_Repeat_int_int.f [v] c = some (List.replicate c.toNat v) := by
  unfold slices_Repeat_int_int.f
  rw [if_pos (show [v].length = 1 from rfl), if_pos h1, if_pos (by omega)]
  rfl
theorem values_l0 {l : List S83} (hl : l.length ≤ 9223372036854775806) : ∀ (t : List S83) (i : Nat) (x : List Int), l.drop i = t → i ≤ l.length → pos t → (x.length : Int) + sumZ t ≤ 400 → Ev (fun k => table_values.l0 k x l (l.length : Int) (i : Int)) (x ++ valG t)
  | [], i, x, h, hi, hp, hs => by
    have hil : i = l.length := by have h2 := congrArg List.length h; simp at h2; omega
    subst hil
    exact Ev.step (f := fun _ => some (x ++ valG [])) (fun k => by simp only [table_values.l0]; rw [if_neg (by omega)]; simp [valG]) (Ev.now _)
  | r :: t, i, x, h, hi, hp, hs => by
    obtain ⟨h1, h2, _⟩ := drop_at h
    have hr := hp r (List.mem_cons_self ..)
    have hn := sumZ_nn (pos_tail hp)
    simp only [sumZ] at hs
    have ih := values_l0 hl t (i + 1) (x ++ List.replicate r.f0.toNat r.f1) h2 h1 (pos_tail hp) (by simp only [List.length_append, List.length_replicate]; omega)
    rw [List.append_assoc] at ih
    refine Ev.step (fun k => ?_) ih
    simp only [table_values.l0]
    rw [if_pos (by omega), if_pos (by omega), if_pos (by omega), rdT_drop h, rep_f hr (by omega), Option.bind_some, if_pos (by simp only [List.length_replicate]; omega), w_next (by omega)]
theorem values_ev {l : List S83} (hl : l.length ≤ 9223372036854775806) (hp : pos l) (hs : sumZ l ≤ 400) : Ev (fun k => table_values.f k l) (valG l) := values_l0 hl l 0 [] rfl (Nat.zero_le _) hp (by simpa using hs)
theorem rvalues_l1 {l : List S83} {i : Nat} (hi : i < l.length) {r : S83} (hr : rd_T83 l (i : Int) = r) {z : List Int} (hc : r.f0 ≤ 400) : ∀ (m j : Nat) (x : List Int), (j : Int) + m = r.f0 → x.length + m ≤ 1000 → Ev (fun k => dioramaref09_values.l0 k l (x ++ List.replicate m r.f1) (wrap64 ((i : Int) + 1))) z → Ev (fun k => dioramaref09_values.l1 k l x (i : Int) (j : Int)) z
  | 0, j, x, hj, hx, h => by
    refine Ev.step (fun k => ?_) (by simpa using h)
    simp only [dioramaref09_values.l1]
    rw [if_pos (by omega), if_pos (by omega), hr, if_neg (by omega)]
  | m + 1, j, x, hj, hx, h => by
    have ih := rvalues_l1 hi hr hc m (j + 1) (x ++ [r.f1]) (by omega) (by simp; omega) (by rw [List.append_assoc]; simpa [List.replicate_succ] using h)
    refine Ev.step (fun k => ?_) ih
    simp only [dioramaref09_values.l1]
    rw [if_pos (by omega), if_pos (by omega), hr, if_pos (by omega), if_pos (by omega), w_next (by omega)]
theorem rvalues_l0 {l : List S83} (hl : l.length ≤ 9223372036854775806) : ∀ (t : List S83) (i : Nat) (x : List Int), l.drop i = t → i ≤ l.length → pos t → (x.length : Int) + sumZ t ≤ 400 → Ev (fun k => dioramaref09_values.l0 k l x (i : Int)) (x ++ valG t)
  | [], i, x, h, hi, hp, hs => by
    have hil : i = l.length := by have h2 := congrArg List.length h; simp at h2; omega
    subst hil
    exact Ev.step (f := fun _ => some (x ++ valG [])) (fun k => by simp only [dioramaref09_values.l0]; rw [if_neg (by omega)]; simp [valG]) (Ev.now _)
  | r :: t, i, x, h, hi, hp, hs => by
    obtain ⟨h1, h2, _⟩ := drop_at h
    have hr := hp r (List.mem_cons_self ..)
    have hn := sumZ_nn (pos_tail hp)
    simp only [sumZ] at hs
    have ih := rvalues_l0 hl t (i + 1) (x ++ List.replicate r.f0.toNat r.f1) h2 h1 (pos_tail hp) (by simp only [List.length_append, List.length_replicate]; omega)
    rw [List.append_assoc] at ih
    have h5 := rvalues_l1 (z := x ++ valG (r :: t)) h1 (rdT_drop h) (by omega) r.f0.toNat 0 x (by omega) (by omega) (by rw [w_next (by omega)]; exact ih)
    refine Ev.step (fun k => ?_) h5
    simp only [dioramaref09_values.l0]
    rw [if_pos (by omega)]
    rfl
theorem rvalues_ev {l : List S83} (hl : l.length ≤ 9223372036854775806) (hp : pos l) (hs : sumZ l ≤ 400) : Ev (fun k => dioramaref09_values.f k l) (valG l) := rvalues_l0 hl l 0 [] rfl (Nat.zero_le _) hp (by simpa using hs)
end Go.Proofs.Ytmbhafgnmdfjhaa.PureT
