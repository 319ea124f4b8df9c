/- A lemma file: loops, by what is left of a list. No condition. A lemma file: the comparing of bytes. No condition. A lemma file: totals and values of runs, as numbers and lists. No condition. A lemma file: chunks, searching, runs in their ranges, as numbers and lists. No condition. A lemma file: the error of tables by the program and by the document, as numbers and lists. No condition. A lemma file: table.Check and dioramaref09.Check come to one answer. No condition. A lemma file: the lengths of small tables. No condition. -/
import Derived.Test.YtmbhafgnmdfjhaaVPlain
import Derived.Test.YtmbhafgnmdfjhaaWMore
import Derived.Test.YtmbhafgnmdfjhaaQTabx17
import Derived.Test.YtmbhafgnmdfjhaaQTabx3
import Derived.Test.YtmbhafgnmdfjhaaQTabx6
import Derived.Test.YtmbhafgnmdfjhaaQTabx9
import Derived.Test.YtmbhafgnmdfjhaaQTabx11
import Derived.Test.YtmbhafgnmdfjhaaMR
import Derived.Test.YtmbhafgnmdfjhaaQTabx8
import Derived.Test.YtmbhafgnmdfjhaaQTabx13
import Derived.Test.YtmbhafgnmdfjhaaQTabx10
import Derived.Test.YtmbhafgnmdfjhaaMT
namespace Go.Proofs.YtmbhafgnmdfjhaaV
open Go.RowKit Go.Proofs.YtmbhafgnmdfjhaaW.PrintWords Go.Proofs.YtmbhafgnmdfjhaaW.PrintMore
section
variable {ρ α : Type}
theorem drop_at {l t : List α} {i : Nat} {x : α} (h : l.drop i = x :: t) : i < l.length ∧ l.drop (i + 1) = t ∧ ∀ d, l.getD i d = x := by
  have hi : i < l.length := by
    refine Nat.lt_of_not_le (fun hn => ?_)
    rw [List.drop_eq_nil_of_le hn] at h; cases h
  have h2 : l.drop i = l[i] :: l.drop (i + 1) := List.drop_eq_getElem_cons hi
  rw [h2] at h
  injection h with h3 h4
  exact ⟨hi, h4, fun d => by rw [List.getD_eq_getElem?_getD, List.getElem?_eq_getElem hi]; exact h3⟩
theorem rd_drop {l t : List Int} {i : Nat} {x : Int} (h : l.drop i = x :: t) : rd l (i : Int) = x := by
  show l.getD (i : Int).toNat 0 = x
  rw [Int.toNat_natCast]; exact (drop_at h).2.2 0
theorem Ev.upto {f : Nat → Nat → Option ρ} {r : ρ} {m : Nat} (hs : ∀ i, i < m → Ev (fun k => f k (i + 1)) r → Ev (fun k => f k i) r) (he : Ev (fun k => f k m) r) : ∀ d n, n + d = m → Ev (fun k => f k n) r
  | 0, n, h => by rw [Nat.add_zero] at h; rw [h]; exact he
  | d + 1, n, h => hs n (by omega) (Ev.upto hs he d (n + 1) (by omega))
theorem Ev.all {f : Nat → Nat → Option ρ} {r : ρ} (m : Nat) (hs : ∀ i, i < m → Ev (fun k => f k (i + 1)) r → Ev (fun k => f k i) r) (he : Ev (fun k => f k m) r) : Ev (fun k => f k 0) r := Ev.upto hs he m 0 (by omega)
theorem Ev.drops {l : List α} {f : Nat → Nat → Option ρ} {g : Nat → List α → ρ} (he : Ev (fun k => f k l.length) (g l.length [])) (hs : ∀ i x t, l.drop i = x :: t → Ev (fun k => f k (i + 1)) (g (i + 1) t) → Ev (fun k => f k i) (g i (x :: t))) : ∀ t i, l.drop i = t → i ≤ l.length → Ev (fun k => f k i) (g i t)
  | [], i, h, hi => by
    have : i = l.length := by have h2 := congrArg List.length h; simp at h2; omega
    rw [this]; exact he
  | x :: t, i, h, hi => hs i x t h (Ev.drops he hs t (i + 1) (drop_at h).2.1 (drop_at h).1)
theorem Ev.list {l : List α} {f : Nat → Nat → Option ρ} (g : Nat → List α → ρ) (he : Ev (fun k => f k l.length) (g l.length [])) (hs : ∀ i x t, l.drop i = x :: t → Ev (fun k => f k (i + 1)) (g (i + 1) t) → Ev (fun k => f k i) (g i (x :: t))) : Ev (fun k => f k 0) (g 0 l) :=
  Ev.drops he hs l 0 rfl (Nat.zero_le _)
end
theorem w_next {i : Nat} (h : i < 9223372036854775807) : wrap64 ((i : Int) + 1) = ((i + 1 : Nat) : Int) := by rw [w64 (by omega) (by omega)]; omega
theorem mn_eq (a b : Int) : mn a b = min a b := by unfold mn; split <;> omega
theorem mx_eq (a b : Int) : mx a b = max a b := by unfold mx; split <;> omega
/-- The place of the first one that is as p says, or -1. -/
def idxF (p : Int → Bool) : Nat → List Int → Int
  | _, [] => -1
  | i, x :: t => if p x = true then (i : Int) else idxF p (i + 1) t
theorem idxF_any (p : Int → Bool) : ∀ (i : Nat) (l : List Int), decide (idxF p i l ≥ 0) = l.any p
  | i, [] => rfl
  | i, x :: t => by
    rw [idxF, List.any_cons]
    cases h : p x with
    | true => rw [if_pos rfl]; simp
    | false => rw [if_neg (by simp), idxF_any p (i + 1) t]; simp
def inB (v a b : Int) : Bool := decide (a ≤ v) && decide (v ≤ b)
theorem inB_iff {v a b : Int} : inB v a b = true ↔ a ≤ v ∧ v ≤ b := by simp [inB]
theorem inB_not {v a b : Int} : inB v a b = false ↔ v < a ∨ b < v := by
  rw [Bool.eq_false_iff, Ne, inB_iff]; omega
theorem any_not_all (l : List Int) (a b : Int) : l.any (fun c => !inB c a b) = !(l.all (inB · a b)) := by
  induction l with
  | nil => rfl
  | cons x t ih => simp only [List.any_cons, List.all_cons, ih, Bool.not_and]
end Go.Proofs.YtmbhafgnmdfjhaaV
namespace Go.Proofs.Ytmbhafgnmdfjhaa.PureTI
open Go.RowKit Go.Proofs.Ytmbhafgnmdfjhaa.QTab Go.Proofs.YtmbhafgnmdfjhaaW.PrintWords Go.Proofs.YtmbhafgnmdfjhaaV
theorem eqi_l0 : ∀ (t u pre pre' : List Int), pre.length = pre'.length → (pre ++ t).length ≤ 9223372036854775807 → t.length = u.length → Ev (fun k => dioramaref00_EqInts.l0 k (pre ++ t) (pre' ++ u) (pre.length : Int)) (decide (t = u))
  | [], [], pre, pre', _, _, _ => Ev.step (f := fun _ => some (decide (([] : List Int) = []))) (fun k => by simp only [dioramaref00_EqInts.l0]; rw [if_neg (by simp)]; rfl) (Ev.now _)
  | a :: t, b :: u, pre, pre', h, hl, hu => by
    have hl2 := hl
    simp only [List.length_append, List.length_cons] at hl2 hu
    by_cases e : a = b
    · subst e
      have ih := eqi_l0 t u (pre ++ [a]) (pre' ++ [a]) (by simp [h]) (by simpa using hl) (by omega)
      have e1 : pre ++ [a] ++ t = pre ++ a :: t := by simp
      have e1' : pre' ++ [a] ++ u = pre' ++ a :: u := by simp
      have e2 : ((pre ++ [a]).length : Int) = wrap64 ((pre.length : Int) + 1) := by
        simp only [List.length_append, List.length_cons, List.length_nil]
        rw [w64 (by omega) (by omega)]; omega
      have e3 : decide (t = u) = decide (a :: t = a :: u) := by simp
      rw [e1, e1', e2, e3] at ih
      refine Ev.step (fun k => ?_) ih
      simp only [dioramaref00_EqInts.l0]
      rw [if_pos (by simp; omega), if_pos (by omega), if_pos (by simp; omega), if_pos (by simp [rd, h])]
    · refine Ev.step (f := fun _ => some (decide (a :: t = b :: u))) (fun k => ?_) (Ev.now _)
      simp only [dioramaref00_EqInts.l0]
      rw [if_pos (by simp; omega), if_pos (by omega), if_pos (by simp; omega), if_neg (by simp [rd, h, e])]
      simp [e]
  | [], _ :: _, _, _, _, _, h => by simp at h
  | _ :: _, [], _, _, _, _, h => by simp at h
theorem eqi_ev {l u : List Int} (hl : l.length ≤ 9223372036854775807) : Ev (fun k => dioramaref00_EqInts.f k l u) (decide (l = u)) := by
  unfold dioramaref00_EqInts.f
  by_cases h : l.length = u.length
  · simp only [if_pos (show (l.length : Int) = (u.length : Int) by omega)]
    exact eqi_l0 l u [] [] rfl (by simpa using hl) h
  · simp only [if_neg (show ¬ (l.length : Int) = (u.length : Int) by omega)]
    have : decide (l = u) = false := decide_eq_false (fun e => h (by rw [e]))
    rw [this]
    exact Ev.now _
end Go.Proofs.Ytmbhafgnmdfjhaa.PureTI
namespace Go.Proofs.Ytmbhafgnmdfjhaa.PureT
open Go.RowKit Go.Proofs.Ytmbhafgnmdfjhaa.QTab Go.Proofs.YtmbhafgnmdfjhaaW.PrintWords Go.Proofs.YtmbhafgnmdfjhaaW.PrintMore Go.Proofs.YtmbhafgnmdfjhaaV
theorem rdT_drop {l t : List S83} {i : Nat} {x : S83} (h : l.drop i = x :: t) : rd_T83 l (i : Int) = x := by
  show l.getD (i : Int).toNat _ = x
  rw [Int.toNat_natCast]; exact (drop_at h).2.2 _
def sumZ : List S83 → Int
  | [] => 0
  | r :: t => r.f0 + sumZ t
def pos (l : List S83) : Prop := ∀ r ∈ l, 1 ≤ r.f0
theorem pos_tail {r : S83} {t : List S83} (h : pos (r :: t)) : pos t := fun x hx => h x (List.mem_cons_of_mem _ hx)
theorem sumZ_nn {l : List S83} (h : pos l) : 0 ≤ sumZ l := by
  induction l with
  | nil => exact Int.le_refl _
  | cons r t ih => have := ih (pos_tail h); have := h r (List.mem_cons_self ..); simp only [sumZ]; omega
def totG (x : Int) : List S83 → Int
  | [] => x
  | r :: t => totG (mn (wrap64 (x + mx 0 (mn r.f0 401))) 401) t
theorem total_l0 {l : List S83} (hl : l.length ≤ 9223372036854775806) : ∀ (t : List S83) (i : Nat) (x : Int), l.drop i = t → i ≤ l.length → Ev (fun k => table_total.l0 k x l (l.length : Int) (i : Int)) (totG x t)
  | [], i, x, h, hi => by
    have hil : i = l.length := by have h2 := congrArg List.length h; simp at h2; omega
    subst hil
    exact Ev.step (f := fun _ => some x) (fun k => by simp only [table_total.l0]; rw [if_neg (by omega)]) (Ev.now _)
  | r :: t, i, x, h, hi => by
    obtain ⟨h1, h2, _⟩ := drop_at h
    refine Ev.step (fun k => ?_) (total_l0 hl t (i + 1) (mn (wrap64 (x + mx 0 (mn r.f0 401))) 401) h2 h1)
    simp only [table_total.l0]
    rw [if_pos (by omega), if_pos (by omega), if_pos (by omega), rdT_drop h, w_next (by omega)]
theorem total_ev {l : List S83} (hl : l.length ≤ 9223372036854775806) : Ev (fun k => table_total.f k l) (totG 0 l) := total_l0 hl l 0 0 rfl (Nat.zero_le _)
def cntG (x : Int) : List S83 → Int
  | [] => x
  | r :: t => if r.f0 > 0 then (if r.f0 > wrap64 (400 - x) then 401 else cntG (wrap64 (x + r.f0)) t) else cntG x t
theorem counted_l0 {l : List S83} (hl : l.length ≤ 9223372036854775806) : ∀ (t : List S83) (i : Nat) (x : Int), l.drop i = t → i ≤ l.length → Ev (fun k => dioramaref09_counted.l0 k l x (i : Int)) (cntG x t)
  | [], i, x, h, hi => by
    have hil : i = l.length := by have h2 := congrArg List.length h; simp at h2; omega
    subst hil
    exact Ev.step (f := fun _ => some x) (fun k => by simp only [dioramaref09_counted.l0]; rw [if_neg (by omega)]) (Ev.now _)
  | r :: t, i, x, h, hi => by
    obtain ⟨h1, h2, _⟩ := drop_at h
    by_cases c1 : r.f0 > 0
    · by_cases c2 : r.f0 > wrap64 (400 - x)
      · refine Ev.step (f := fun _ => some 401) (fun k => ?_) (by rw [cntG, if_pos c1, if_pos c2]; exact Ev.now _)
        simp only [dioramaref09_counted.l0]
        rw [if_pos (by omega), if_pos (by omega), rdT_drop h, if_pos c1, if_pos c2]
      · have ih := counted_l0 hl t (i + 1) (wrap64 (x + r.f0)) h2 h1
        rw [cntG, if_pos c1, if_neg c2]
        refine Ev.step (fun k => ?_) ih
        simp only [dioramaref09_counted.l0]
        rw [if_pos (by omega), if_pos (by omega), rdT_drop h, if_pos c1, if_neg c2, w_next (by omega)]
    · have ih := counted_l0 hl t (i + 1) x h2 h1
      rw [cntG, if_neg c1]
      refine Ev.step (fun k => ?_) ih
      simp only [dioramaref09_counted.l0]
      rw [if_pos (by omega), if_pos (by omega), rdT_drop h, if_neg c1, w_next (by omega)]
theorem counted_ev {l : List S83} (hl : l.length ≤ 9223372036854775806) : Ev (fun k => dioramaref09_counted.f k l) (cntG 0 l) := counted_l0 hl l 0 0 rfl (Nat.zero_le _)
theorem tot_full : ∀ (l : List S83), pos l → totG 401 l = 401
  | [], _ => rfl
  | r :: t, h => by
    have h1 := h r (List.mem_cons_self ..)
    have e : mn (wrap64 (401 + mx 0 (mn r.f0 401))) 401 = 401 := by rw [mn_eq, mx_eq, mn_eq]; unfold wrap64; omega
    rw [totG, e]; exact tot_full t (pos_tail h)
theorem tot_cnt : ∀ (l : List S83) (x : Int), pos l → 0 ≤ x → x ≤ 400 → (x + sumZ l ≤ 400 → totG x l = x + sumZ l ∧ cntG x l = x + sumZ l) ∧ (400 < x + sumZ l → totG x l = 401 ∧ cntG x l = 401)
  | [], x, _, h0, h1 => ⟨fun _ => ⟨by simp [totG, sumZ], by simp [cntG, sumZ]⟩, fun h => by simp only [sumZ] at h; omega⟩
  | r :: t, x, h, h0, h1 => by
    have hr := h r (List.mem_cons_self ..)
    have hs := sumZ_nn (pos_tail h)
    have ew : wrap64 (400 - x) = 400 - x := by unfold wrap64; omega
    by_cases hc : x + r.f0 ≤ 400
    · have e : mn (wrap64 (x + mx 0 (mn r.f0 401))) 401 = x + r.f0 := by rw [mn_eq, mx_eq, mn_eq]; unfold wrap64; omega
      have e2 : wrap64 (x + r.f0) = x + r.f0 := by unfold wrap64; omega
      obtain ⟨i1, i2⟩ := tot_cnt t (x + r.f0) (pos_tail h) (by omega) hc
      rw [totG, cntG, if_pos (by omega), if_neg (by omega), e, e2]
      simp only [sumZ]
      rw [← Int.add_assoc]
      exact ⟨i1, i2⟩
    · have e : mn (wrap64 (x + mx 0 (mn r.f0 401))) 401 = 401 := by rw [mn_eq, mx_eq, mn_eq]; unfold wrap64; omega
      rw [totG, cntG, if_pos (by omega), if_pos (by omega), e, tot_full t (pos_tail h)]
      exact ⟨fun h9 => by simp only [sumZ] at h9; omega, fun _ => ⟨rfl, rfl⟩⟩
def valG : List S83 → List Int
  | [] => []
  | r :: t => List.replicate r.f0.toNat r.f1 ++ valG t
theorem valG_len : ∀ (l : List S83), pos l → ((valG l).length : Int) = sumZ l
  | [], _ => rfl
  | r :: t, h => by
    have := h r (List.mem_cons_self ..)
    have ih := valG_len t (pos_tail h)
    simp only [valG, sumZ, List.length_append, List.length_replicate]
    omega
theorem valG_append : ∀ (l m : List S83), valG (l ++ m) = valG l ++ valG m
  | [], m => rfl
  | r :: t, m => by simp only [List.cons_append, valG, valG_append t m, List.append_assoc]
theorem rep_f {v c : Int} (h1 : 1 ≤ c) (h2 : c ≤ 400) : slices_Repeat_int_int.f [v] c = some (List.replicate c.toNat v) := by
  unfold slices_Repeat_int_int.f
  rw [if_pos (show [v].length = 1 from rfl), if_pos h1, if_pos (by omega)]
  rfl
theorem values_l0 {l : List S83} (hl : l.length ≤ 9223372036854775806) : ∀ (t : List S83) (i : Nat) (x : List Int), l.drop i = t → i ≤ l.length → pos t → (x.length : Int) + sumZ t ≤ 400 → Ev (fun k => table_values.l0 k x l (l.length : Int) (i : Int)) (x ++ valG t)
  | [], i, x, h, hi, hp, hs => by
    have hil : i = l.length := by have h2 := congrArg List.length h; simp at h2; omega
    subst hil
    exact Ev.step (f := fun _ => some (x ++ valG [])) (fun k => by simp only [table_values.l0]; rw [if_neg (by omega)]; simp [valG]) (Ev.now _)
  | r :: t, i, x, h, hi, hp, hs => by
    obtain ⟨h1, h2, _⟩ := drop_at h
    have hr := hp r (List.mem_cons_self ..)
    have hn := sumZ_nn (pos_tail hp)
    simp only [sumZ] at hs
    have ih := values_l0 hl t (i + 1) (x ++ List.replicate r.f0.toNat r.f1) h2 h1 (pos_tail hp) (by simp only [List.length_append, List.length_replicate]; omega)
    rw [List.append_assoc] at ih
    refine Ev.step (fun k => ?_) ih
    simp only [table_values.l0]
    rw [if_pos (by omega), if_pos (by omega), if_pos (by omega), rdT_drop h, rep_f hr (by omega), Option.bind_some, if_pos (by simp only [List.length_replicate]; omega), w_next (by omega)]
theorem values_ev {l : List S83} (hl : l.length ≤ 9223372036854775806) (hp : pos l) (hs : sumZ l ≤ 400) : Ev (fun k => table_values.f k l) (valG l) := values_l0 hl l 0 [] rfl (Nat.zero_le _) hp (by simpa using hs)
theorem rvalues_l1 {l : List S83} {i : Nat} (hi : i < l.length) {r : S83} (hr : rd_T83 l (i : Int) = r) {z : List Int} (hc : r.f0 ≤ 400) : ∀ (m j : Nat) (x : List Int), (j : Int) + m = r.f0 → x.length + m ≤ 1000 → Ev (fun k => dioramaref09_values.l0 k l (x ++ List.replicate m r.f1) (wrap64 ((i : Int) + 1))) z → Ev (fun k => dioramaref09_values.l1 k l x (i : Int) (j : Int)) z
  | 0, j, x, hj, hx, h => by
    refine Ev.step (fun k => ?_) (by simpa using h)
    simp only [dioramaref09_values.l1]
    rw [if_pos (by omega), if_pos (by omega), hr, if_neg (by omega)]
  | m + 1, j, x, hj, hx, h => by
    have ih := rvalues_l1 hi hr hc m (j + 1) (x ++ [r.f1]) (by omega) (by simp; omega) (by rw [List.append_assoc]; simpa [List.replicate_succ] using h)
    refine Ev.step (fun k => ?_) ih
    simp only [dioramaref09_values.l1]
    rw [if_pos (by omega), if_pos (by omega), hr, if_pos (by omega), if_pos (by omega), w_next (by omega)]
theorem rvalues_l0 {l : List S83} (hl : l.length ≤ 9223372036854775806) : ∀ (t : List S83) (i : Nat) (x : List Int), l.drop i = t → i ≤ l.length → pos t → (x.length : Int) + sumZ t ≤ 400 → Ev (fun k => dioramaref09_values.l0 k l x (i : Int)) (x ++ valG t)
  | [], i, x, h, hi, hp, hs => by
    have hil : i = l.length := by have h2 := congrArg List.length h; simp at h2; omega
    subst hil
    exact Ev.step (f := fun _ => some (x ++ valG [])) (fun k => by simp only [dioramaref09_values.l0]; rw [if_neg (by omega)]; simp [valG]) (Ev.now _)
  | r :: t, i, x, h, hi, hp, hs => by
    obtain ⟨h1, h2, _⟩ := drop_at h
    have hr := hp r (List.mem_cons_self ..)
    have hn := sumZ_nn (pos_tail hp)
    simp only [sumZ] at hs
    have ih := rvalues_l0 hl t (i + 1) (x ++ List.replicate r.f0.toNat r.f1) h2 h1 (pos_tail hp) (by simp only [List.length_append, List.length_replicate]; omega)
    rw [List.append_assoc] at ih
    have h5 := rvalues_l1 (z := x ++ valG (r :: t)) h1 (rdT_drop h) (by omega) r.f0.toNat 0 x (by omega) (by omega) (by rw [w_next (by omega)]; exact ih)
    refine Ev.step (fun k => ?_) h5
    simp only [dioramaref09_values.l0]
    rw [if_pos (by omega)]
    rfl
theorem rvalues_ev {l : List S83} (hl : l.length ≤ 9223372036854775806) (hp : pos l) (hs : sumZ l ≤ 400) : Ev (fun k => dioramaref09_values.f k l) (valG l) := rvalues_l0 hl l 0 [] rfl (Nat.zero_le _) hp (by simpa using hs)
end Go.Proofs.Ytmbhafgnmdfjhaa.PureT
namespace Go.Proofs.Ytmbhafgnmdfjhaa.PureT
open Go.RowKit Go.Proofs.Ytmbhafgnmdfjhaa.QTab Go.Proofs.YtmbhafgnmdfjhaaW.PrintWords Go.Proofs.YtmbhafgnmdfjhaaW.PrintMore Go.Proofs.YtmbhafgnmdfjhaaV
theorem ev_all {ρ : Type} {g : Nat → Nat → Option ρ} {r : Nat → ρ} : ∀ n, (∀ c, c < n → Ev (g c) (r c)) → ∃ K, ∀ k, K ≤ k → ∀ c, c < n → g c k = some (r c)
  | 0, _ => ⟨0, fun _ _ _ hc => absurd hc (Nat.not_lt_zero _)⟩
  | n + 1, h => by
    obtain ⟨K1, h1⟩ := ev_all n (fun c hc => h c (by omega))
    obtain ⟨K2, h2⟩ := h n (by omega)
    refine ⟨max K1 K2, fun k hk c hc => ?_⟩
    by_cases hcn : c = n
    · subst hcn; exact h2 k (by omega)
    · exact h1 k (by omega) c (by omega)
theorem rd_mem {l : List Int} {i : Nat} (hi : i < l.length) : rd l (i : Int) ∈ l := by
  have : rd l (i : Int) = l[i] := by simp [rd, List.getD_eq_getElem?_getD, List.getElem?_eq_getElem hi]
  rw [this]; exact List.getElem_mem _
/-! chunks -/
def fst7 (l : List S86) (i : Nat) : Int := (rd_T86 l (i : Int)).f0
theorem rd86_cons (c : S86) (r : List S86) (i : Nat) : rd_T86 (c :: r) ((i + 1 : Nat) : Int) = rd_T86 r (i : Int) := by
  show (c :: r).getD ((i + 1 : Nat) : Int).toNat _ = r.getD (i : Int).toNat _
  rw [Int.toNat_natCast, Int.toNat_natCast]; rfl
theorem ch_inc {np : Int} : ∀ (l : List S86) (j : Nat) (p : Int), chB np j p l = true → ∀ i, i + 1 < l.length → fst7 l i < fst7 l (i + 1)
  | [], _, _, _, i, hi => by simp at hi
  | [c], _, _, _, i, hi => by simp at hi
  | c :: c2 :: r, j, p, h, i, hi => by
    rw [chB, Bool.and_eq_true] at h
    have h2 := h.2
    cases i with
    | zero =>
      rw [chB, Bool.and_eq_true, Bool.and_eq_true, if_neg (by omega)] at h2
      exact of_decide_eq_true h2.1.1
    | succ i =>
      have ih := ch_inc (c2 :: r) (j + 1) c.f0 h2 i (by simpa using hi)
      unfold fst7 at ih ⊢
      rw [rd86_cons, rd86_cons]
      exact ih
theorem ch_mono {l : List S86} (h : ∀ i, i + 1 < l.length → fst7 l i < fst7 l (i + 1)) (a : Nat) : ∀ d, a + d < l.length → fst7 l a ≤ fst7 l (a + d) := by
  intro d
  induction d with
  | zero => intro _; exact Int.le_refl _
  | succ d ih => intro hd; have h1 := ih (by omega); have h2 := h (a + d) (by omega); rw [← Nat.add_assoc]; omega
def msF (l : List S86) (c : Nat) : Int := (rd_T86 l (kSt l (c + 1))).f1
theorem kSt_spec {l : List S86} (h0 : 0 < l.length) (h1 : fst7 l 0 = 1) (hi : ∀ i, i + 1 < l.length → fst7 l i < fst7 l (i + 1)) : ∀ c, ∃ κ : Nat, kSt l (c + 1) = (κ : Int) ∧ κ < l.length ∧ fst7 l κ ≤ (c : Int) + 1 ∧ (κ + 1 < l.length → (c : Int) + 1 < fst7 l (κ + 1)) := by
  intro c
  induction c with
  | zero =>
    refine ⟨0, ?_, h0, by rw [h1]; omega, fun h => by have := hi 0 h; rw [h1] at this; simpa using this⟩
    rw [kSt]
    have e : kSt l 0 + 1 = 0 := rfl
    rw [e, if_pos ⟨by omega, by have : (rd_T86 l ((0 : Nat) : Int)).f0 = 1 := h1; simpa using this⟩]
    rfl
  | succ c ih =>
    obtain ⟨κ, e1, e2, e3, e4⟩ := ih
    rw [kSt, e1]
    by_cases hc : κ + 1 < l.length ∧ fst7 l (κ + 1) = (c : Int) + 2
    · refine ⟨κ + 1, ?_, hc.1, by rw [hc.2]; omega, fun h => by have := hi (κ + 1) h; rw [hc.2] at this; omega⟩
      rw [if_pos ⟨by have := hc.1; omega, by
        have h9 := hc.2
        unfold fst7 at h9
        rw [show ((κ + 1 : Nat) : Int) = (κ : Int) + 1 from by omega] at h9
        rw [h9]; omega⟩]
      omega
    · refine ⟨κ, ?_, e2, by omega, fun h => by
        have h5 := e4 h
        have h6 : fst7 l (κ + 1) ≠ (c : Int) + 2 := fun h7 => hc ⟨h, h7⟩
        omega⟩
      rw [if_neg (fun h => hc ⟨by have := h.1; omega, by
        have h9 := h.2
        unfold fst7
        rw [show ((κ + 1 : Nat) : Int) = (κ : Int) + 1 from by omega, h9]; omega⟩)]
theorem inChunk_ev (t : S27) (hl7 : t.f7.length ≤ 1000) (hl8 : t.f8.length ≤ 1000) (hc : chB t.f8.length 0 0 t.f7 = true) (h7 : 0 < t.f7.length) (c : Nat) (hc8 : c < t.f8.length) :
    Ev (fun k => table_inChunk.f k t.f0 t.f1 t.f2 t.f3 t.f4 t.f5 t.f6 t.f7 t.f8 t.f9 t.f10 (c : Int)) (msF t.f7 c) := by
  have hinc := ch_inc t.f7 0 0 hc
  obtain ⟨κ, e1, e2, e3, e4⟩ := kSt_spec h7 (ch_first hc h7) hinc c
  have ew : wrap64 ((c : Int) + 1) = (c : Int) + 1 := by unfold wrap64; omega
  have main : ∀ d, κ + d < t.f7.length → Ev (fun k => table_inChunk.l0 k (c : Int) ((κ + d : Nat) : Int) t.f0 t.f1 t.f2 t.f3 t.f4 t.f5 t.f6 t.f7 t.f8 t.f9 t.f10) (msF t.f7 c) := by
    intro d
    induction d with
    | zero =>
      intro hd
      refine Ev.step (f := fun _ => some (msF t.f7 c)) (fun k => ?_) (Ev.now _)
      simp only [table_inChunk.l0]
      rw [if_pos (by omega), if_pos (by omega), ew, if_neg (by unfold fst7 at e3; rw [Nat.add_zero]; omega), msF, e1, Nat.add_zero]
    | succ d ih =>
      intro hd
      refine Ev.step (fun k => ?_) (ih (by omega))
      simp only [table_inChunk.l0]
      have h5 := ch_mono hinc (κ + 1) d (by omega)
      have h6 := e4 (by omega)
      rw [if_pos (by omega), if_pos (by omega), ew, if_pos (by
        unfold fst7 at h5 h6
        rw [show κ + 1 + d = κ + (d + 1) by omega] at h5
        omega), show wrap64 (((κ + (d + 1) : Nat) : Int) - 1) = ((κ + d : Nat) : Int) from by unfold wrap64; omega]
  have h := main (t.f7.length - 1 - κ) (by omega)
  unfold table_inChunk.f
  rw [show κ + (t.f7.length - 1 - κ) = t.f7.length - 1 by omega] at h
  rw [show wrap64 ((t.f7.length : Int) - 1) = ((t.f7.length - 1 : Nat) : Int) from by unfold wrap64; omega]
  exact h
/-! searching -/
theorem less_f (a b : Int) : cmp_Less_int.f a b = some (decide (a < b)) := by
  unfold cmp_Less_int.f cmp_isNaN_int.f
  simp
theorem bs_l0 {l : List Int} (hl : l.length ≤ 1000) (hs : ∀ i j : Nat, i < j → j < l.length → rd l i < rd l j) (x : Int) : ∀ (m lo hi : Nat), hi - lo ≤ m → lo ≤ hi → hi ≤ l.length → (∀ i : Nat, i < lo → rd l i < x) → (∀ i : Nat, hi ≤ i → i < l.length → x ≤ rd l i) → ∃ p : Int, Ev (fun k => slices_BinarySearch_int_int.l0 k l x (l.length : Int) (lo : Int) (hi : Int)) (p, decide (x ∈ l)) := by
  intro m
  induction m with
  | zero =>
    intro lo hi hm h1 h2 ha hb
    have he : lo = hi := by omega
    subst he
    refine ⟨lo, ?_⟩
    by_cases h3 : lo < l.length
    · by_cases h4 : rd l (lo : Int) = x
      · have hx : decide (x ∈ l) = true := decide_eq_true (by rw [← h4]; exact rd_mem h3)
        rw [hx]
        refine Ev.step (f := fun _ => some ((lo : Int), true)) (fun k => ?_) (Ev.now _)
        simp only [slices_BinarySearch_int_int.l0]
        rw [if_neg (by omega), if_pos (by omega), if_pos (by omega), if_pos (by omega), if_pos h4]
      · have hx : decide (x ∈ l) = false := decide_eq_false (fun hm => by
          obtain ⟨i, hi, hxi⟩ := List.getElem_of_mem hm
          have hr : rd l (i : Int) = x := by rw [← hxi]; simp [rd, List.getD_eq_getElem?_getD, List.getElem?_eq_getElem hi]
          rcases Nat.lt_trichotomy i lo with h | h | h
          · have := ha i h; omega
          · subst h; exact h4 hr
          · have h5 := hs lo i h hi
            have h6 := hb lo (Nat.le_refl _) h3
            omega)
        rw [hx]
        refine Ev.step (f := fun _ => some ((lo : Int), false)) (fun k => ?_) (Ev.now _)
        simp only [slices_BinarySearch_int_int.l0]
        rw [if_neg (by omega), if_pos (by omega), if_pos (by omega), if_pos (by omega), if_neg h4]
        unfold slices_isNaN_int.f
        simp
    · have hx : decide (x ∈ l) = false := decide_eq_false (fun hm => by
        obtain ⟨i, hi, hxi⟩ := List.getElem_of_mem hm
        have hr : rd l (i : Int) = x := by rw [← hxi]; simp [rd, List.getD_eq_getElem?_getD, List.getElem?_eq_getElem hi]
        have := ha i (by omega)
        omega)
      rw [hx]
      refine Ev.step (f := fun _ => some ((lo : Int), false)) (fun k => ?_) (Ev.now _)
      simp only [slices_BinarySearch_int_int.l0]
      rw [if_neg (by omega), if_neg (by omega)]
  | succ m ih =>
    intro lo hi hm h1 h2 ha hb
    by_cases he : lo = hi
    · exact ih lo hi (by omega) h1 h2 ha hb
    · obtain ⟨h, hh⟩ : ∃ h : Nat, h = (lo + hi) / 2 := ⟨_, rfl⟩
      have hw : wrap64 ((IntKind.u64.wrap (wrap64 ((lo : Int) + (hi : Int)))) / 2) = (h : Int) := by
        have e1 : wrap64 ((lo : Int) + (hi : Int)) = ((lo + hi : Nat) : Int) := by unfold wrap64; omega
        rw [e1, IntKind.wrap_u64]
        have e2 : ((lo + hi : Nat) : Int) % 18446744073709551616 = ((lo + hi : Nat) : Int) := by omega
        rw [e2]; unfold wrap64; omega
      by_cases hlt : rd l (h : Int) < x
      · obtain ⟨p, hp⟩ := ih (h + 1) hi (by omega) (by omega) h2 (fun i hi' => by
          by_cases hih : i = h
          · subst hih; exact hlt
          · have := hs i h (by omega) (by omega); omega) hb
        refine ⟨p, Ev.step (fun k => ?_) hp⟩
        simp only [slices_BinarySearch_int_int.l0]
        rw [if_pos (by omega), hw, if_pos (by omega), if_pos (by omega), less_f, Option.bind_some, if_pos (decide_eq_true hlt), w_next (by omega)]
      · obtain ⟨p, hp⟩ := ih lo h (by omega) (by omega) (by omega) ha (fun i hi' hil => by
          by_cases hih : i = h
          · subst hih; omega
          · have := hs h i (by omega) hil; omega)
        refine ⟨p, Ev.step (fun k => ?_) hp⟩
        simp only [slices_BinarySearch_int_int.l0]
        rw [if_pos (by omega), hw, if_pos (by omega), if_pos (by omega), less_f, Option.bind_some, if_neg (by simpa using hlt)]
theorem bs_ev {l : List Int} (hl : l.length ≤ 1000) (hs : ∀ i j : Nat, i < j → j < l.length → rd l i < rd l j) (x : Int) : ∃ p : Int, Ev (fun k => slices_BinarySearch_int_int.f k l x) (p, decide (x ∈ l)) :=
  bs_l0 hl hs x l.length 0 l.length (by omega) (by omega) (Nat.le_refl _) (fun i hi => absurd hi (Nat.not_lt_zero _)) (fun i h1 h2 => by omega)
theorem sync_inc {n : Int} : ∀ (l : List Int) (p : Int), syncsB n p l = true → (∀ i : Nat, i < l.length → p < rd l i) ∧ ∀ i j : Nat, i < j → j < l.length → rd l i < rd l j
  | [], _, _ => ⟨fun i hi => absurd hi (Nat.not_lt_zero _), fun i j _ hj => absurd hj (Nat.not_lt_zero _)⟩
  | s :: r, p, h => by
    rw [syncsB, Bool.and_eq_true, Bool.and_eq_true] at h
    have hp := of_decide_eq_true h.1.1
    obtain ⟨h1, h2⟩ := sync_inc r s h.2
    have rc : ∀ i : Nat, rd (s :: r) ((i + 1 : Nat) : Int) = rd r (i : Int) := fun i => by
      show (s :: r).getD ((i + 1 : Nat) : Int).toNat _ = r.getD (i : Int).toNat _
      rw [Int.toNat_natCast, Int.toNat_natCast]; rfl
    have r0 : rd (s :: r) ((0 : Nat) : Int) = s := rfl
    refine ⟨fun i hi => ?_, fun i j hij hj => ?_⟩
    · cases i with
      | zero => rw [r0]; exact hp
      | succ i => rw [rc]; have := h1 i (by simpa using hi); omega
    · cases j with
      | zero => omega
      | succ j =>
        rw [rc]
        cases i with
        | zero => rw [r0]; exact h1 j (by simpa using hj)
        | succ i => rw [rc]; exact h2 i j (by omega) (by simpa using hj)
theorem has_l0 {l : List Int} (hl : l.length ≤ 1000) (x : Int) : ∀ (t : List Int) (i : Nat), l.drop i = t → i ≤ l.length → ∃ r : Int, Ev (fun k => dioramaref00_HasInt.l0 k l x (i : Int)) r ∧ decide (0 ≤ r) = decide (x ∈ t)
  | [], i, h, hi => by
    have hil : i = l.length := by have h2 := congrArg List.length h; simp at h2; omega
    subst hil
    exact ⟨-1, Ev.step (f := fun _ => some (-1)) (fun k => by simp only [dioramaref00_HasInt.l0]; rw [if_neg (by omega)]) (Ev.now _), by simp⟩
  | a :: t, i, h, hi => by
    obtain ⟨h1, h2, _⟩ := drop_at h
    have hr := rd_drop h
    by_cases ha : a = x
    · refine ⟨i, Ev.step (f := fun _ => some (i : Int)) (fun k => ?_) (Ev.now _), by simp [ha]⟩
      simp only [dioramaref00_HasInt.l0]
      rw [if_pos (by omega), if_pos (by omega), hr, if_pos ha]
    · obtain ⟨r, e1, e2⟩ := has_l0 hl x t (i + 1) h2 h1
      refine ⟨r, Ev.step (fun k => ?_) e1, by rw [e2]; simp [Ne.symm ha]⟩
      simp only [dioramaref00_HasInt.l0]
      rw [if_pos (by omega), if_pos (by omega), hr, if_neg ha, w_next (by omega)]
theorem has_ev {l : List Int} (hl : l.length ≤ 1000) (x : Int) : ∃ r : Int, Ev (fun k => dioramaref00_HasInt.f k l x) r ∧ decide (0 ≤ r) = decide (x ∈ l) := has_l0 hl x l 0 rfl (Nat.zero_le _)
theorem rruns_l0 {l : List S83} (hl : l.length ≤ 1000) (a b : Int) : ∀ (t : List S83) (i : Nat), l.drop i = t → i ≤ l.length → Ev (fun k => dioramaref09_runs.l0 k l a b (i : Int)) (!(t.any (badR a b)))
  | [], i, h, hi => by
    have hil : i = l.length := by have h2 := congrArg List.length h; simp at h2; omega
    subst hil
    exact Ev.step (f := fun _ => some true) (fun k => by simp only [dioramaref09_runs.l0]; rw [if_neg (by omega)]) (Ev.now _)
  | r :: t, i, h, hi => by
    obtain ⟨h1, h2, _⟩ := drop_at h
    have ih := rruns_l0 hl a b t (i + 1) h2 h1
    by_cases c1 : r.f0 < 1
    · rw [List.any_cons, show badR a b r = true from by simp [badR, c1]]
      refine Ev.step (f := fun _ => some false) (fun k => ?_) (Ev.now _)
      simp only [dioramaref09_runs.l0]
      rw [if_pos (by omega), if_pos (by omega), rdT_drop h, if_pos c1]
    · cases c2 : (decide (a ≤ r.f1) && decide (r.f1 ≤ b)) with
      | false =>
        rw [List.any_cons, show badR a b r = true from by
          unfold badR
          rw [Bool.and_eq_false_iff] at c2
          rcases c2 with h | h <;> rw [h] <;> simp]
        refine Ev.step (f := fun _ => some false) (fun k => ?_) (Ev.now _)
        simp only [dioramaref09_runs.l0]
        rw [if_pos (by omega), if_pos (by omega), rdT_drop h, if_neg c1, in_f, c2, Option.bind_some, if_neg (by simp)]
      | true =>
        rw [List.any_cons, show badR a b r = false from by
          unfold badR
          rw [Bool.and_eq_true] at c2
          rw [c2.1, c2.2, decide_eq_false c1]; rfl, Bool.false_or]
        refine Ev.step (fun k => ?_) ih
        simp only [dioramaref09_runs.l0]
        rw [if_pos (by omega), if_pos (by omega), rdT_drop h, if_neg c1, in_f, c2, Option.bind_some, if_pos rfl, w_next (by omega)]
theorem rruns_ev {l : List S83} (hl : l.length ≤ 1000) (a b : Int) : Ev (fun k => dioramaref09_runs.f k l a b) (!(l.any (badR a b))) := rruns_l0 hl a b l 0 rfl (Nat.zero_le _)
end Go.Proofs.Ytmbhafgnmdfjhaa.PureT
namespace Go.Proofs.Ytmbhafgnmdfjhaa.PureT
open Go.RowKit Go.Proofs.Ytmbhafgnmdfjhaa.QTab Go.Proofs.YtmbhafgnmdfjhaaW.PrintWords Go.Proofs.YtmbhafgnmdfjhaaW.PrintMore Go.Proofs.YtmbhafgnmdfjhaaV
def teF (first : Int) (steps offs : List Int) (n : Int) : Int := if (steps.take (n - 1).toNat).any (fun x => x == 0) = true then 31 else if timesB offs 0 first steps = false then 1 else 0
theorem times_l1 {steps offs ro : List Int} {n : Int} (hn : n ≤ 400) (hs : (steps.length : Int) = n) (hr : (ro.length : Int) = n) (ho : ∀ i : Nat, (i : Int) < n → rd ro i = offF offs i) : ∀ (t : List Int) (i : Nat) (dts : Int), steps.drop i = t → i ≤ steps.length → Ev (fun k => dioramaref09_times.l1 k n steps ro dts (i : Int)) (if timesB offs i dts t = false then 1 else 0)
  | [], i, dts, h, hi => by
    have hil : i = steps.length := by have h2 := congrArg List.length h; simp at h2; omega
    subst hil
    refine Ev.step (f := fun _ => some 0) (fun k => ?_) (Ev.now _)
    simp only [dioramaref09_times.l1]
    rw [if_neg (by omega)]
  | a :: t, i, dts, h, hi => by
    obtain ⟨h1, h2, _⟩ := drop_at h
    have hr1 := rd_drop h
    have ho1 := ho i (by omega)
    have hin : ∀ v, dioramaref09_in.f v (-1099511627776) 1099511627776 = some (inT v) := fun v => in_f _ _ _
    have ih := times_l1 hn hs hr ho t (i + 1) (wrap64 (dts + a)) h2 h1
    cases hc1 : inT dts with
    | false =>
      refine Ev.step (f := fun _ => some 1) (fun k => ?_) (by rw [timesB, hc1]; exact Ev.now _)
      simp only [dioramaref09_times.l1]
      rw [if_pos (by omega), hin, hc1, Option.bind_some, if_neg (by simp)]
    | true =>
      cases hc2 : inT (wrap64 (dts + offF offs i)) with
      | false =>
        refine Ev.step (f := fun _ => some 1) (fun k => ?_) (by rw [timesB, hc1, hc2]; exact Ev.now _)
        simp only [dioramaref09_times.l1]
        rw [if_pos (by omega), hin, hc1, Option.bind_some, if_pos rfl, if_pos (by omega), if_pos (by omega), ho1, hin, hc2, Option.bind_some, if_neg (by simp)]
      | true =>
        rw [timesB, hc1, hc2, Bool.true_and, Bool.true_and]
        refine Ev.step (fun k => ?_) ih
        simp only [dioramaref09_times.l1]
        rw [if_pos (by omega), hin, hc1, Option.bind_some, if_pos rfl, if_pos (by omega), if_pos (by omega), ho1, hin, hc2, Option.bind_some, if_pos rfl, if_pos (by omega), hr1, w_next (by omega)]
theorem times_ev (t : S27) (hl1 : t.f1.length ≤ 1000) (hl2 : t.f2.length ≤ 1000) (hp1 : pos t.f1) (hp2 : pos t.f2) {n : Int} (hs1 : sumZ t.f1 = n) (hn : n ≤ 400) (hs2 : 0 < t.f2.length → sumZ t.f2 = n) :
    Ev (fun k => dioramaref09_times.f k t.f0 t.f1 t.f2 t.f3 t.f4 t.f5 t.f6 t.f7 t.f8 t.f9 t.f10 n) (teF t.f0 (valG t.f1) (valG t.f2) n) := by
  have hn0 : 0 ≤ n := by rw [← hs1]; exact sumZ_nn hp1
  have hsl : ((valG t.f1).length : Int) = n := by rw [valG_len _ hp1, hs1]
  obtain ⟨steps, hst⟩ : ∃ z, valG t.f1 = z := ⟨_, rfl⟩
  unfold dioramaref09_times.f
  refine Ev.bind (rvalues_ev (by omega) hp1 (by omega)) ?_
  simp only [hst]
  rw [hst] at hsl
  have tail : Ev (fun k => (dioramaref09_or.f k t.f2 (List.replicate n.toNat 0)).bind fun t156 => dioramaref09_times.l1 k n steps t156 t.f0 0) (if timesB (valG t.f2) 0 t.f0 steps = false then 1 else 0) := by
    unfold dioramaref09_or.f
    by_cases h2 : 0 < t.f2.length
    · simp only [if_pos (show (t.f2.length : Int) > 0 by omega)]
      have hv : ((valG t.f2).length : Int) = n := by rw [valG_len _ hp2, hs2 h2]
      have hpos : 0 < n := by
        have := hs2 h2
        cases hf : t.f2 with
        | nil => rw [hf] at h2; simp at h2
        | cons a r =>
          rw [hf] at this hp2
          have h3 := hp2 a (List.mem_cons_self ..)
          have h4 := sumZ_nn (pos_tail hp2)
          simp only [sumZ] at this
          omega
      exact Ev.bind (Ev.bind (rvalues_ev (by omega) hp2 (by have := hs2 h2; omega)) (Ev.now _)) (times_l1 hn hsl hv (fun i hi => by rw [offF, if_pos (by omega)]) steps 0 t.f0 rfl (Nat.zero_le _))
    · simp only [if_neg (show ¬ (t.f2.length : Int) > 0 by omega)]
      have hf : t.f2 = [] := List.length_eq_zero_iff.mp (by omega)
      refine Ev.bind (Ev.now _) (times_l1 hn hsl (by simp; omega) (fun i hi => ?_) steps 0 t.f0 rfl (Nat.zero_le _))
      rw [hf]
      show (List.replicate n.toNat (0 : Int)).getD (i : Int).toNat 0 = offF [] i
      rw [offF, if_neg (by simp)]
      simp only [List.getD_eq_getElem?_getD, List.getElem?_replicate]
      split <;> rfl
  have main : ∀ (t' : List Int) (i : Nat), (steps.take (n - 1).toNat).drop i = t' → i ≤ (steps.take (n - 1).toNat).length → Ev (fun k => dioramaref09_times.l0 k n steps (i : Int) t.f0 t.f1 t.f2 t.f3 t.f4 t.f5 t.f6 t.f7 t.f8 t.f9 t.f10) (if t'.any (fun x => x == 0) = true then 31 else if timesB (valG t.f2) 0 t.f0 steps = false then 1 else 0) := by
    intro t'
    induction t' with
    | nil =>
      intro i h hi
      have hil : i = (steps.take (n - 1).toNat).length := by have h2 := congrArg List.length h; simp at h2 hi; simp; omega
      have hil2 : (i : Int) = max (n - 1) 0 := by rw [hil]; simp; omega
      rw [if_neg (by simp)]
      refine Ev.step (fun k => ?_) tail
      simp only [dioramaref09_times.l0]
      rw [if_neg (by rw [w_next (by omega)]; omega), if_pos hn0, if_pos (by omega)]
    | cons a r ih =>
      intro i h hi
      obtain ⟨h1, h2, _⟩ := drop_at h
      have hr1 := rd_drop h
      have hlt : i < (n - 1).toNat := by simp at h1; omega
      have hrd : rd steps (i : Int) = a := by
        rw [← hr1]
        show steps.getD (i : Int).toNat 0 = (steps.take (n - 1).toNat).getD (i : Int).toNat 0
        rw [Int.toNat_natCast, List.getD_eq_getElem?_getD, List.getD_eq_getElem?_getD, List.getElem?_take, if_pos hlt]
      by_cases ha : a = 0
      · rw [if_pos (by simp [ha])]
        refine Ev.step (f := fun _ => some 31) (fun k => ?_) (Ev.now _)
        simp only [dioramaref09_times.l0]
        rw [if_pos (by rw [w_next (by omega)]; omega), if_pos (by omega), if_pos (by omega), hrd, if_pos ha]
      · rw [List.any_cons, show (a == 0) = false from beq_eq_false_iff_ne.mpr ha, Bool.false_or]
        refine Ev.step (fun k => ?_) (ih (i + 1) h2 (by omega))
        simp only [dioramaref09_times.l0]
        rw [if_pos (by rw [w_next (by omega)]; omega), if_pos (by omega), if_pos (by omega), hrd, if_neg ha, w_next (by omega)]
  exact main _ 0 rfl (Nat.zero_le _)
/-! the counts -/
theorem badR_pos {a b : Int} {l : List S83} (h : l.any (badR a b) = false) : pos l := by
  intro r hr
  rw [List.any_eq_false] at h
  have h2 := h r hr
  simp only [badR, Bool.or_eq_true, not_or] at h2
  have := h2.1
  simp only [decide_eq_true_eq] at this
  omega
theorem tc_eq {l : List S83} (h : pos l) : totG 0 l = cntG 0 l ∧ (totG 0 l ≤ 400 → sumZ l = totG 0 l) ∧ 0 ≤ totG 0 l := by
  obtain ⟨t1, t2⟩ := tot_cnt l 0 h (by omega) (by omega)
  rw [Int.zero_add] at t1 t2
  have hn := sumZ_nn h
  by_cases hs : sumZ l ≤ 400
  · obtain ⟨a, b⟩ := t1 hs
    exact ⟨by rw [a, b], fun _ => a.symm, by rw [a]; exact hn⟩
  · obtain ⟨a, b⟩ := t2 (by omega)
    exact ⟨by rw [a, b], fun h9 => by rw [a] at h9; omega, by rw [a]; omega⟩
def lsum : List Int → Int
  | [] => 0
  | x :: l => x + lsum l
theorem lsum_app (l m : List Int) : lsum (l ++ m) = lsum l + lsum m := by
  induction l with
  | nil => simp [lsum]
  | cons a t ih => simp only [List.cons_append, lsum, ih]; omega
theorem lsum_nn {l : List Int} (h : ∀ x ∈ l, 0 ≤ x) : 0 ≤ lsum l := by
  induction l with
  | nil => exact Int.le_refl _
  | cons a t ih => have := h a (List.mem_cons_self ..); have := ih (fun x hx => h x (List.mem_cons_of_mem _ hx)); simp only [lsum]; omega
theorem sums_eq {n : Int} (hn : n ≤ 400) : ∀ (l : List Int) (tot : Int), (∀ x ∈ l, 0 ≤ x ∧ x ≤ 400) → 0 ≤ tot → tot ≤ 400 → sumsB n tot l = (tot + lsum l == n)
  | [], tot, _, _, _ => by simp [sumsB, lsum]
  | x :: r, tot, h, h0, h1 => by
    have hx := h x (List.mem_cons_self ..)
    have hr : ∀ y ∈ r, 0 ≤ y ∧ y ≤ 400 := fun y hy => h y (List.mem_cons_of_mem _ hy)
    have hnn := lsum_nn (fun y hy => (hr y hy).1)
    have ew : wrap64 (tot + x) = tot + x := by unfold wrap64; omega
    rw [sumsB, ew]
    by_cases hc : n < tot + x
    · rw [decide_eq_true hc]
      symm
      show (tot + lsum (x :: r) == n) = false
      rw [beq_eq_false_iff_ne]
      simp only [lsum]; omega
    · rw [decide_eq_false hc, sums_eq hn r (tot + x) hr (by omega) (by omega)]
      simp only [lsum, Bool.not_false, Bool.true_and]
      rw [Int.add_assoc]
theorem cap_eq (ms : Nat → Int) : ∀ c, (∀ j, j < c → 0 ≤ ms j ∧ ms j ≤ 400) → capSum ms c = min (lsum ((List.range c).map ms)) 401 ∧ 0 ≤ lsum ((List.range c).map ms)
  | 0, _ => ⟨(by decide : (0 : Int) = min 0 401), by simp [lsum]⟩
  | c + 1, h => by
    obtain ⟨h1, h2⟩ := cap_eq ms c (fun j hj => h j (by omega))
    have h3 := h c (by omega)
    rw [capSum, h1, List.range_succ, List.map_append, lsum_app]
    simp only [List.map_cons, List.map_nil, lsum]
    constructor
    · unfold wrap64; omega
    · omega
theorem counts_eq (t : S27) {n T2 T9 : Int} (hn : n ≤ 400) (h7 : t.f7.any badC = false) : countsB t n T2 T9 (msF t.f7) = rcountsB t n T2 T9 := by
  have key : chOk t = true → (capSum (msF t.f7) t.f8.length == n) = sumsB n 0 (chunkR t) := by
    intro hok
    rw [chunkR_ok hok]
    unfold chOk at hok
    rw [Bool.and_eq_true] at hok
    have hms : ∀ j, j < t.f8.length → 0 ≤ msF t.f7 j ∧ msF t.f7 j ≤ 400 := by
      intro j hj
      have hl : 0 < t.f7.length := by
        have h9 := beq_iff_eq.mp hok.1
        rw [decide_eq_true (show 0 < t.f8.length by omega)] at h9
        exact of_decide_eq_true h9
      have hk := kSt_pos hl (ch_first hok.2 hl) j
      have hk2 := (kSt_rng t.f7 (j + 1)).2
      have hm : rd_T86 t.f7 (kSt t.f7 (j + 1)) ∈ t.f7 := by
        have hlt : (kSt t.f7 (j + 1)).toNat < t.f7.length := by omega
        have : rd_T86 t.f7 (kSt t.f7 (j + 1)) = t.f7[(kSt t.f7 (j + 1)).toNat] := by
          show t.f7.getD _ _ = _
          rw [List.getD_eq_getElem?_getD, List.getElem?_eq_getElem hlt]; rfl
        rw [this]; exact List.getElem_mem _
      rw [List.any_eq_false] at h7
      have h8 := h7 _ hm
      simp only [badC, Bool.or_eq_true, not_or, Bool.not_eq_true, Bool.not_eq_false', decide_eq_true_eq] at h8
      exact h8
    obtain ⟨c1, c2⟩ := cap_eq (msF t.f7) t.f8.length hms
    rw [c1, sums_eq hn _ 0 (fun x hx => by
      unfold chunkL at hx
      obtain ⟨j, hj, rfl⟩ := List.mem_map.mp hx
      exact hms j (List.mem_range.mp hj)) (by omega) (by omega), Int.zero_add]
    show (min (lsum ((List.range t.f8.length).map (msF t.f7))) 401 == n) = (lsum (chunkL t.f7 t.f8.length) == n)
    have e : chunkL t.f7 t.f8.length = (List.range t.f8.length).map (msF t.f7) := rfl
    rw [e]
    generalize lsum ((List.range t.f8.length).map (msF t.f7)) = S
    by_cases hS : S ≤ 400
    · rw [show min S 401 = S by omega]
    · rw [show min S 401 = 401 by omega, beq_eq_false_iff_ne.mpr (show (401 : Int) ≠ n by omega), beq_eq_false_iff_ne.mpr (show S ≠ n by omega)]
  unfold countsB rcountsB
  have hb1 : bad1 t n T2 T9 = (rbad1 t n T2 T9 || rbad3 t n) := rfl
  rw [hb1]
  cases hok : chOk t with
  | true =>
    rw [← key hok]
    have hok2 := hok
    unfold chOk at hok2
    rw [Bool.and_eq_true] at hok2
    rw [hok2.1, hok2.2]
    cases rbad1 t n T2 T9 <;> cases rbad3 t n <;> cases bad2 t n <;> cases syncsB n 0 t.f3 <;> simp
  | false =>
    have hok2 := hok
    unfold chOk at hok2
    rw [Bool.and_eq_false_iff] at hok2
    rcases hok2 with h | h
    · rw [h]; cases rbad1 t n T2 T9 <;> cases rbad3 t n <;> cases bad2 t n <;> cases syncsB n 0 t.f3 <;> simp
    · rw [h]; cases rbad1 t n T2 T9 <;> cases rbad3 t n <;> cases bad2 t n <;> cases syncsB n 0 t.f3 <;> simp
end Go.Proofs.Ytmbhafgnmdfjhaa.PureT
namespace Go.Proofs.Ytmbhafgnmdfjhaa.PureT
open Go.RowKit Go.Proofs.Ytmbhafgnmdfjhaa.QTab Go.Proofs.YtmbhafgnmdfjhaaW.PrintWords Go.Proofs.YtmbhafgnmdfjhaaW.PrintMore Go.Proofs.YtmbhafgnmdfjhaaV
structure Lens (t : S27) : Prop where
  l1 : t.f1.length ≤ 1000
  l2 : t.f2.length ≤ 1000
  l3 : t.f3.length ≤ 1000
  l7 : t.f7.length ≤ 1000
  l8 : t.f8.length ≤ 1000
  l9 : t.f9.length ≤ 1000
  l10 : t.f10.length ≤ 1000
theorem rgB_parts {t : S27} (h : rgB t = true) : pos t.f1 ∧ pos t.f2 ∧ pos t.f9 ∧ t.f7.any badC = false := by
  rw [rg_eq] at h
  unfold rg1 at h
  simp only [Bool.and_eq_true, Bool.not_eq_true'] at h
  obtain ⟨⟨_, h1, h9, h2, _⟩, _, _, h7⟩ := h
  exact ⟨badR_pos h1, badR_pos h2, badR_pos h9, h7⟩
/-- All that the two walks ask for, at every depth from some one on; and that they come to one error. -/
structure Both (k : Nat) (t : S27) (T1 T2 T9 : Int) (fnd : Nat → Bool) (te : Int) (ps hv : Nat → Int) : Prop where
  c : ChkOk k t T1 T2 T9 (msF t.f7) (valG t.f1) (valG t.f2) ps fnd
  r : RChkOk k t T1 T2 T9 te hv fnd
  e : checkF t T1 T2 T9 (msF t.f7) (valG t.f1) (valG t.f2) fnd = rcheckF t T1 T2 T9 te fnd
def fndF (t : S27) (i : Nat) : Bool := decide ((i : Int) + 1 ∈ t.f3)
theorem both_ev (t : S27) (L : Lens t) : ∃ K, ∃ ps hv : Nat → Int, ∀ k, K ≤ k → Both k t (totG 0 t.f1) (totG 0 t.f2) (totG 0 t.f9) (fndF t) (teF t.f0 (valG t.f1) (valG t.f2) (totG 0 t.f1)) ps hv := by
  have hc := L.l1; have hc2 := L.l2; have hc9 := L.l9
  -- what holds whatever the tables are
  obtain ⟨Ka, ha⟩ := rruns_ev L.l1 0 2199023255552
  obtain ⟨Kb, hb⟩ := rruns_ev L.l9 0 1099511627776
  obtain ⟨Kd, hd⟩ := rruns_ev L.l2 (-2199023255552) 2199023255552
  obtain ⟨K1, h1⟩ := total_ev (l := t.f1) (by omega)
  obtain ⟨K2, h2⟩ := total_ev (l := t.f2) (by omega)
  obtain ⟨K9, h9⟩ := total_ev (l := t.f9) (by omega)
  obtain ⟨C1, g1⟩ := counted_ev (l := t.f1) (by omega)
  obtain ⟨C2, g2⟩ := counted_ev (l := t.f2) (by omega)
  obtain ⟨C9, g9⟩ := counted_ev (l := t.f9) (by omega)
  obtain ⟨hv, hhv⟩ := Classical.axiomOfChoice (fun i : Nat => has_ev L.l3 ((i : Int) + 1))
  obtain ⟨Kh, hh⟩ := ev_all (g := fun i k => dioramaref00_HasInt.f k t.f3 ((i : Int) + 1)) (r := hv) t.f10.length (fun i _ => (hhv i).1)
  have hKc : ∃ Kc, ∀ k, Kc ≤ k → chB t.f8.length 0 0 t.f7 = true → decide (0 < t.f7.length) = decide (0 < t.f8.length) → ∀ c : Nat, c < t.f8.length → table_inChunk.f k t.f0 t.f1 t.f2 t.f3 t.f4 t.f5 t.f6 t.f7 t.f8 t.f9 t.f10 c = some (msF t.f7 c) := by
    by_cases hch : chB t.f8.length 0 0 t.f7 = true ∧ decide (0 < t.f7.length) = decide (0 < t.f8.length)
    · obtain ⟨K, hK⟩ := ev_all (g := fun c k => table_inChunk.f k t.f0 t.f1 t.f2 t.f3 t.f4 t.f5 t.f6 t.f7 t.f8 t.f9 t.f10 (c : Int)) (r := msF t.f7) t.f8.length (fun c hc8 => inChunk_ev t L.l7 L.l8 hch.1 (by
        have h := hch.2
        rw [decide_eq_true (show 0 < t.f8.length by omega)] at h
        exact of_decide_eq_true h) c hc8)
      exact ⟨K, fun k hk _ _ => hK k hk⟩
    · exact ⟨0, fun k _ hA hB => absurd ⟨hA, hB⟩ hch⟩
  obtain ⟨Kc, hKc⟩ := hKc
  have hbs : ∃ Kz, ∃ ps : Nat → Int, ∀ k, Kz ≤ k → syncsB (totG 0 t.f1) 0 t.f3 = true → ∀ i : Nat, i < t.f10.length → slices_BinarySearch_int_int.f k t.f3 ((i : Int) + 1) = some (ps i, fndF t i) := by
    by_cases hs : syncsB (totG 0 t.f1) 0 t.f3 = true
    · obtain ⟨ps, hps⟩ := Classical.axiomOfChoice (fun i : Nat => bs_ev L.l3 (sync_inc t.f3 0 hs).2 ((i : Int) + 1))
      obtain ⟨K, hK⟩ := ev_all (g := fun i k => slices_BinarySearch_int_int.f k t.f3 ((i : Int) + 1)) (r := fun i => (ps i, fndF t i)) t.f10.length (fun i _ => hps i)
      exact ⟨K, ps, fun k hk _ => hK k hk⟩
    · exact ⟨0, fun _ => 0, fun k _ h => absurd h hs⟩
  obtain ⟨Kz, ps, hbs⟩ := hbs
  have hval : ∃ Kv, ∀ k, Kv ≤ k → rgB t = true → ¬ 400 < totG 0 t.f1 → table_values.f k t.f1 = some (valG t.f1) ∧ (((valG t.f1).length : Nat) : Int) = totG 0 t.f1 := by
    by_cases hg : rgB t = true ∧ ¬ 400 < totG 0 t.f1
    · obtain ⟨p1, _, _, _⟩ := rgB_parts hg.1
      obtain ⟨_, e2, _⟩ := tc_eq p1
      have e3 := e2 (by omega)
      obtain ⟨K, hK⟩ := values_ev (l := t.f1) (by omega) p1 (by omega)
      exact ⟨K, fun k hk _ _ => ⟨hK k hk, by rw [valG_len _ p1, e3]⟩⟩
    · exact ⟨0, fun k _ hA hB => absurd ⟨hA, hB⟩ hg⟩
  obtain ⟨Kv, hval⟩ := hval
  have hf2 : rgB t = true → ¬ 400 < totG 0 t.f1 → bad1 t (totG 0 t.f1) (totG 0 t.f2) (totG 0 t.f9) = false → (0 < t.f2.length → sumZ t.f2 = totG 0 t.f1) ∧ sumZ t.f2 ≤ 400 := by
    intro hA hB hC
    obtain ⟨_, p2, _, _⟩ := rgB_parts hA
    obtain ⟨_, e2, _⟩ := tc_eq p2
    by_cases hl : 0 < t.f2.length
    · unfold bad1 at hC
      simp only [Bool.or_eq_false_iff] at hC
      have h5 := hC.1.1
      rw [decide_eq_true hl, Bool.true_and, bne_eq_false_iff_eq] at h5
      have e3 := e2 (by omega)
      exact ⟨fun _ => by omega, by omega⟩
    · have hf : t.f2 = [] := List.length_eq_zero_iff.mp (by omega)
      exact ⟨fun h => absurd h hl, by rw [hf]; simp [sumZ]⟩
  have hval2 : ∃ Kw, ∀ k, Kw ≤ k → rgB t = true → ¬ 400 < totG 0 t.f1 → bad1 t (totG 0 t.f1) (totG 0 t.f2) (totG 0 t.f9) = false → table_values.f k t.f2 = some (valG t.f2) ∧ (0 < (valG t.f2).length → (valG t.f1).length ≤ (valG t.f2).length) := by
    by_cases hg : rgB t = true ∧ ¬ 400 < totG 0 t.f1 ∧ bad1 t (totG 0 t.f1) (totG 0 t.f2) (totG 0 t.f9) = false
    · obtain ⟨p1, p2, _, _⟩ := rgB_parts hg.1
      obtain ⟨f1, f2⟩ := hf2 hg.1 hg.2.1 hg.2.2
      obtain ⟨_, e2, _⟩ := tc_eq p1
      have e3 := e2 (by omega)
      obtain ⟨K, hK⟩ := values_ev (l := t.f2) (by omega) p2 f2
      refine ⟨K, fun k hk _ _ _ => ⟨hK k hk, fun hp => ?_⟩⟩
      have v1 := valG_len _ p1
      have v2 := valG_len _ p2
      have hl : 0 < t.f2.length := by
        cases hf : t.f2 with
        | nil => rw [hf] at hp; simp [valG] at hp
        | cons a r => simp
      have := f1 hl
      omega
    · exact ⟨0, fun k _ hA hB hC => absurd ⟨hA, hB, hC⟩ hg⟩
  obtain ⟨Kw, hval2⟩ := hval2
  have htm : ∃ Kt, ∀ k, Kt ≤ k → rgB t = true → ¬ 400 < totG 0 t.f1 → bad1 t (totG 0 t.f1) (totG 0 t.f2) (totG 0 t.f9) = false → dioramaref09_times.f k t.f0 t.f1 t.f2 t.f3 t.f4 t.f5 t.f6 t.f7 t.f8 t.f9 t.f10 (totG 0 t.f1) = some (teF t.f0 (valG t.f1) (valG t.f2) (totG 0 t.f1)) := by
    by_cases hg : rgB t = true ∧ ¬ 400 < totG 0 t.f1 ∧ bad1 t (totG 0 t.f1) (totG 0 t.f2) (totG 0 t.f9) = false
    · obtain ⟨p1, p2, _, _⟩ := rgB_parts hg.1
      obtain ⟨f1, f2⟩ := hf2 hg.1 hg.2.1 hg.2.2
      obtain ⟨_, e2, _⟩ := tc_eq p1
      obtain ⟨K, hK⟩ := times_ev t L.l1 L.l2 p1 p2 (e2 (by omega)) (by omega) f1
      exact ⟨K, fun k hk _ _ _ => hK k hk⟩
    · exact ⟨0, fun k _ hA hB hC => absurd ⟨hA, hB, hC⟩ hg⟩
  obtain ⟨Kt, htm⟩ := htm
  have hcb : countsB t (totG 0 t.f1) (totG 0 t.f2) (totG 0 t.f9) (msF t.f7) = true → bad1 t (totG 0 t.f1) (totG 0 t.f2) (totG 0 t.f9) = false ∧ syncsB (totG 0 t.f1) 0 t.f3 = true := by
    intro h
    unfold countsB at h
    simp only [Bool.and_eq_true, Bool.not_eq_true'] at h
    exact ⟨h.1, h.2.2.1⟩
  refine ⟨Ka + Kb + Kd + K1 + K2 + K9 + C1 + C2 + C9 + Kh + Kc + Kz + Kv + Kw + Kt, ps, hv, fun k hk => ?_⟩
  have hcnt : rgB t = true → ¬ 400 < totG 0 t.f1 → countsB t (totG 0 t.f1) (totG 0 t.f2) (totG 0 t.f9) (msF t.f7) = rcountsB t (totG 0 t.f1) (totG 0 t.f2) (totG 0 t.f9) := fun hA hB => counts_eq t (by omega) (rgB_parts hA).2.2.2
  refine ⟨⟨fun _ => ?_, fun _ => h2 k (by omega), fun _ => h9 k (by omega), hKc k (by omega), fun hA hB hC => hval k (by omega) hA hB, fun hA hB hC => hval2 k (by omega) hA hB (hcb hC).1, fun hA hC => hbs k (by omega) (hcb hC).2⟩, ⟨⟨ha k (by omega), hb k (by omega), hd k (by omega)⟩, fun hA => ?_, fun hA => ?_, fun hA => ?_, fun hA hB hC => htm k (by omega) hA hB (hcb ((hcnt hA hB).trans hC)).1, fun i hi => ⟨hh k (by omega) i hi, (hhv i).2⟩, by have := L.l8; omega⟩, ?_⟩
  · unfold table_Count.f; rw [show table_total.f k t.f1 = _ from h1 k (by omega)]; rfl
  · unfold dioramaref09_Count.f; rw [show dioramaref09_counted.f k t.f1 = _ from g1 k (by omega), Option.bind_some, (tc_eq (rgB_parts hA).1).1]
  · rw [show dioramaref09_counted.f k t.f2 = _ from g2 k (by omega), (tc_eq (rgB_parts hA).2.1).1]
  · rw [show dioramaref09_counted.f k t.f9 = _ from g9 k (by omega), (tc_eq (rgB_parts hA).2.2.1).1]
  · unfold checkF rcheckF
    by_cases hA : rgB t = false
    · rw [if_pos hA, if_pos hA]
    · rw [if_neg hA, if_neg hA]
      have hA' : rgB t = true := by simpa using hA
      by_cases hB : decide (400 < totG 0 t.f1) = true
      · rw [if_pos hB, if_pos hB]
      · rw [if_neg hB, if_neg hB, hcnt hA' (by simpa using hB)]
        by_cases hC : rcountsB t (totG 0 t.f1) (totG 0 t.f2) (totG 0 t.f9) = false
        · rw [if_pos hC, if_pos hC]
        · rw [if_neg hC, if_neg hC]
          unfold teF
          by_cases hD : (List.take (totG 0 t.f1 - 1).toNat (valG t.f1)).any (fun x => x == 0) = true
          · rw [if_pos hD, if_pos hD]; rfl
          · rw [if_neg hD, if_neg hD]
            by_cases hE : timesB (valG t.f2) 0 t.f0 (valG t.f1) = false
            · rw [if_pos hE, if_pos hE]; rfl
            · rw [if_neg hE, if_neg hE]; rfl
end Go.Proofs.Ytmbhafgnmdfjhaa.PureT
namespace Go.Proofs.Ytmbhafgnmdfjhaa.QTab
open Go.Proofs.Ytmbhafgnmdfjhaa.PureT Go.RowKit Go.Proofs.YtmbhafgnmdfjhaaW.PrintWords Go.Proofs.YtmbhafgnmdfjhaaW.PrintLast Go.Proofs.YtmbhafgnmdfjhaaW.PrintMore Go.Proofs.YtmbhafgnmdfjhaaV
theorem lens_of {t : S27} (h : smallB t = true) : Lens t ∧ t.f6.length ≤ 1000 ∧ ∀ x ∈ t.f10, x.length ≤ 1000 := by
  unfold smallB at h
  simp only [Bool.and_eq_true, decide_eq_true_eq, Bool.not_eq_true'] at h
  obtain ⟨h0, h1⟩ := h
  refine ⟨⟨by omega, by omega, by omega, by omega, by omega, by omega, by omega⟩, by omega, fun x hx => ?_⟩
  rw [List.any_eq_false] at h0
  have := h0 x hx
  simp only [decide_eq_true_eq] at this
  omega
end Go.Proofs.Ytmbhafgnmdfjhaa.QTab
