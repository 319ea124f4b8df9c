/- A lemma file: runs of pixels and pixels of runs, of both sides. No condition. -/
import Derived.Test.YtaebgjdaoloceaaPRuns
import Derived.Test.YtaebgjdaoloceaaQBmpPx1
namespace Go.Proofs.Ytaebgjdaoloceaa.PureB
open Go.RowKit Go.Proofs.Ytaebgjdaoloceaa.QBmpP Go.Proofs.YtaebgjdaoloceaaW.PrintWords Go.Proofs.YtaebgjdaoloceaaV
theorem rd_at {x q t : List Int} {a : Int} (h : q ++ a :: t = x) : rd x (q.length : Int) = a := by
  subst h; simp [rd]
theorem rd_zero {t : List Int} {a : Int} : rd (a :: t) 0 = a := id rfl
theorem drop_one {t : List Int} {a : Int} : (a :: t).drop 1 = t := id rfl
theorem within_p (v a b : Int) : bitmap_within.f v a b = some (decide (a ≤ v) && decide (v ≤ b)) := by
  unfold bitmap_within.f
  by_cases h : v ≥ a
  · rw [if_pos h, decide_eq_true h, Bool.true_and]
  · rw [if_neg h, decide_eq_false h, Bool.false_and]
def bad (l : List Int) : Bool := l.any (fun c => !(decide (0 ≤ c) && decide (c ≤ 15)))
theorem bad_not {l : List Int} (h : bad l = false) : ∀ x ∈ l, 0 ≤ x ∧ x ≤ 15 := by
  intro x hx
  have := List.any_eq_false.mp h x hx
  simp only [Bool.not_eq_true', Bool.not_eq_false, Bool.and_eq_true, decide_eq_true_eq] at this
  simpa using this
theorem next_n {pre : List Int} {a : Int} (h : (pre.length : Int) + 1 ≤ 9223372036854775807) : ((pre ++ [a]).length : Int) = wrap64 ((pre.length : Int) + 1) := by
  simp only [List.length_append, List.length_cons, List.length_nil]
  rw [w64 (by omega) (by omega)]; omega
theorem idx_l0 {l : List Int} (hl : l.length ≤ 9223372036854775807) : ∀ (t pre : List Int), pre ++ t = l → ∃ r : Int, Ev (fun k => slices_IndexFunc_int_int__49.l0 k l (l.length : Int) (pre.length : Int)) r ∧ decide (r ≥ 0) = bad t
  | [], pre, hp => by
    obtain rfl : pre = l := by simpa using hp
    exact ⟨-1, Ev.step (f := fun _ => some (-1)) (fun k => by rw [slices_IndexFunc_int_int__49.l0]; rw [if_neg (by omega)]) (Ev.now _), rfl⟩
  | a :: t, pre, hp => by
    have hlen : pre.length + (t.length + 1) = l.length := by rw [← hp]; simp
    have ea : rd l (pre.length : Int) = a := rd_at hp
    by_cases h : 0 ≤ a ∧ a ≤ 15
    · obtain ⟨r, h1, h2⟩ := idx_l0 hl t (pre ++ [a]) (by simpa using hp)
      rw [next_n (by omega)] at h1
      refine ⟨r, Ev.step (fun k => ?_) h1, ?_⟩
      · rw [slices_IndexFunc_int_int__49.l0, if_pos (by omega), if_pos (by omega), if_pos (by omega), ea, bitmap_Runs_1.f, within_p]
        simp only [Option.bind_some, decide_eq_true h.1, decide_eq_true h.2, Bool.and_self, Bool.not_true]
        rfl
      · rw [h2]; simp [bad, h.1, h.2]
    · refine ⟨(pre.length : Int), Ev.step (f := fun _ => some (pre.length : Int)) (fun k => ?_) (Ev.now _), ?_⟩
      · rw [slices_IndexFunc_int_int__49.l0, if_pos (by omega), if_pos (by omega), if_pos (by omega), ea, bitmap_Runs_1.f, within_p]
        have : (decide (0 ≤ a) && decide (a ≤ 15)) = false := by
          cases hq : (decide (0 ≤ a) && decide (a ≤ 15)) with
          | false => rfl
          | true => exact absurd (by simpa using hq) h
        simp only [Option.bind_some, this, Bool.not_false, if_true]
      · have : (decide (0 ≤ a) && decide (a ≤ 15)) = false := by
          cases hq : (decide (0 ≤ a) && decide (a ≤ 15)) with
          | false => rfl
          | true => exact absurd (by simpa using hq) h
        simp only [bad, List.any_cons, this, Bool.not_false, Bool.true_or]
        simp
theorem ev_cont {l : List Int} (hl : l.length ≤ 9223372036854775807) : Ev (fun k => slices_ContainsFunc_int_int__49.f k l) (bad l) := by
  unfold slices_ContainsFunc_int_int__49.f slices_IndexFunc_int_int__49.f
  obtain ⟨r, h1, h2⟩ := idx_l0 hl l [] rfl
  refine Ev.bind h1 ?_
  rw [h2]
  exact Ev.now _
theorem code_val {c : Int} (h : 0 ≤ c ∧ c ≤ 15) : wrap64 (c * 16) % 256 = 16 * c := by rw [w64 (by omega) (by omega)]; omega
theorem code_or {c n : Int} (h : 0 ≤ c ∧ c ≤ 15) (hn : 0 ≤ n ∧ n ≤ 15) : Go.bits .or .u8 (16 * c) (n % 256) = 16 * c + n := by
  rw [show n % 256 = n by omega]
  exact bits_join .u8 8 (by decide) (fun n h h' => by rw [IntKind.wrap_u8]; omega) 4 (16 * c) n (by omega) (by omega) (by omega) (by omega) (by omega) (by omega)
theorem code_len (c : Int) (n m : Nat) : (code c n m).length ≤ 2 := by unfold code; (repeat' split) <;> simp
theorem row_len : ∀ (n : Nat) (r : List Int), r.length = n → (rowF r).length ≤ 2 * r.length := by
  intro n
  induction n using Nat.strongRecOn with
  | ind n ih =>
  intro r hn
  match r, hn with
  | [], _ => simp [rowF]
  | c :: t, hn =>
    simp only [List.length_cons] at hn
    have := ih (t.drop (heads c t)).length (by simp; omega) (t.drop (heads c t)) rfl
    have h2 := code_len c (heads c t + 1) (t.length + 1)
    rw [rowF, List.length_append]
    simp only [List.length_drop, List.length_cons] at this ⊢
    omega
/-! Runs of the program. -/
section
variable {x0 : List Int} {x1 x7 : Int} {r : List Int × Int}
theorem run_l2 {x6 : List Int} {c : Int} {t : List Int} (hl : t.length + 1 ≤ 4611686018427387904) : ∀ (v q : List Int), c :: t = c :: q ++ v → Ev (fun k => bitmap_Runs.j5 k x0 x1 x6 x7 (c :: t) (((q.length + 1 + heads c v : Nat) : Int))) r → Ev (fun k => bitmap_Runs.l2 k x0 x1 x6 x7 (c :: t) (((q.length + 1 : Nat) : Int))) r
  | [], q, hq, h => by
    have hlen : t.length + 1 = q.length + 1 := by have := congrArg List.length hq; simpa using this
    refine Ev.step (fun k => ?_) h
    rw [bitmap_Runs.l2, if_neg (by simp only [List.length_cons]; omega)]; rfl
  | a :: v, q, hq, h => by
    have hlen : t.length + 1 = q.length + 1 + (v.length + 1) := by have := congrArg List.length hq; simp at this; omega
    have ea : rd (c :: t) (((q.length + 1 : Nat) : Int)) = a := by
      have := rd_at (x := c :: t) (q := c :: q) (t := v) (a := a) hq.symm
      simpa using this
    by_cases e : a = c
    · subst e
      have ih := run_l2 hl v (q ++ [a]) (by simpa using hq) (by
        rw [heads, if_pos rfl] at h
        have e2 : (q ++ [a]).length + 1 + heads a v = q.length + 1 + (heads a v + 1) := by simp; omega
        rw [e2]; exact h)
      refine Ev.step (fun k => ?_) ih
      rw [bitmap_Runs.l2, if_pos (by simp only [List.length_cons]; omega), if_pos (by omega), if_pos (by simp only [List.length_cons]; omega), ea, rd_zero, if_pos rfl]
      rw [w64 (by omega) (by omega)]
      simp only [List.length_append, List.length_cons, List.length_nil]
      rfl
    · rw [heads, if_neg e] at h
      refine Ev.step (fun k => ?_) h
      rw [bitmap_Runs.l2, if_pos (by simp only [List.length_cons]; omega), if_pos (by omega), if_pos (by simp only [List.length_cons]; omega), ea, rd_zero, if_neg e]
theorem run_j5 {x6 : List Int} {c : Int} {t : List Int} {n : Nat} (hc : 0 ≤ c ∧ c ≤ 15) (hn : 1 ≤ n ∧ n ≤ t.length + 1) (hm : t.length + 1 ≤ 64) (ha : x6.length ≤ 1099511627776) (h : Ev (fun k => bitmap_Runs.l1 k x0 x1 (x6 ++ code c n (t.length + 1)) x7 ((c :: t).drop n)) r) : Ev (fun k => bitmap_Runs.j5 k x0 x1 x6 x7 (c :: t) (n : Int)) r := by
  refine Ev.step (fun k => ?_) h
  rw [bitmap_Runs.j5, if_pos (by simp only [List.length_cons]; omega), rd_zero, code_val hc]
  by_cases e : n = t.length + 1
  · rw [if_pos (by simp only [List.length_cons]; omega), if_pos (by omega), if_pos (by omega), if_pos (by simp only [List.length_cons]; omega), code, if_pos e]
    rfl
  · rw [if_neg (by simp only [List.length_cons]; omega), code, if_neg e]
    by_cases e2 : n ≤ 14
    · rw [if_pos (by omega), if_pos (by omega), if_pos (by omega), if_pos (by simp only [List.length_cons]; omega), if_pos e2, code_or hc (by omega)]
      rfl
    · rw [if_neg (by omega), if_neg e2, show (15 : Int) = 15 % 256 from rfl, code_or hc (by omega)]
      simp only [Option.bind_some]
      rw [if_pos (by simp only [List.length_cons, List.length_nil]; omega), if_pos (by omega), if_pos (by simp only [List.length_cons]; omega)]
      rw [show wrap64 ((n : Int) - 15 % 256) % 256 = (n : Int) - 15 by rw [w64 (by omega) (by omega)]; omega]
      rfl
theorem run_l1 : ∀ (n : Nat) (u x6 : List Int), u.length = n → n ≤ 64 → (∀ x ∈ u, 0 ≤ x ∧ x ≤ 15) → x6.length + 2 * u.length ≤ 1099511627776 → Ev (fun k => bitmap_Runs.l0 k x0 x1 (x6 ++ rowF u) (wrap64 (x7 + x1))) r → Ev (fun k => bitmap_Runs.l1 k x0 x1 x6 x7 u) r := by
  intro n
  induction n using Nat.strongRecOn with
  | ind n ih =>
  intro u x6 hn hm hu ha h
  match u, hn, hu, ha, h with
  | [], _, _, _, h =>
    rw [rowF, List.append_nil] at h
    refine Ev.step (fun k => ?_) h
    rw [bitmap_Runs.l1, if_neg (by simp)]
  | c :: t, hn, hu, ha, h =>
    simp only [List.length_cons] at hn ha
    have hhl := heads_le c t
    have h2 : Ev (fun k => bitmap_Runs.l2 k x0 x1 x6 x7 (c :: t) ((([] : List Int).length + 1 : Nat) : Int)) r := by
      refine run_l2 (by omega) t [] (by simp) ?_
      refine run_j5 (hu c (by simp)) (by simp; omega) (by omega) (by omega) ?_
      have e : ([] : List Int).length + 1 + heads c t = heads c t + 1 := by simp; omega
      rw [e, List.drop_succ_cons]
      have hcl := code_len c (heads c t + 1) (t.length + 1)
      refine ih (t.drop (heads c t)).length (by simp; omega) _ _ rfl (by simp; omega) (fun x hx => hu x (by simp [List.mem_of_mem_drop hx])) (by simp only [List.length_append, List.length_drop]; omega) ?_
      rw [rowF] at h
      rwa [List.append_assoc]
    refine Ev.step (fun k => ?_) h2
    rw [bitmap_Runs.l1, if_pos (by simp)]
    rfl
end
theorem run_l0 {x0 : List Int} {w : Nat} (hw : 1 ≤ w ∧ w ≤ 64) (hx : ∀ x ∈ x0, 0 ≤ x ∧ x ≤ 15) : ∀ (h p : Nat) (x6 : List Int), x0.length = p + h * w → x0.length ≤ 4096 → x6.length ≤ 128 * p → Ev (fun k => bitmap_Runs.l0 k x0 (w : Int) x6 (p : Int)) (x6 ++ rows w h (x0.drop p), 0)
  | 0, p, x6, hl, hs, ha => by
    refine Ev.step (f := fun _ => some (x6 ++ rows w 0 (x0.drop p), 0)) (fun k => ?_) (Ev.now _)
    rw [bitmap_Runs.l0, if_neg (by omega), rows, List.append_nil]
  | h + 1, p, x6, hl, hs, ha => by
    rw [Nat.succ_mul] at hl
    have e : (x0.take (wrap64 ((p : Int) + (w : Int))).toNat).drop (p : Int).toNat = (x0.drop p).take w := by
      rw [w64 (by omega) (by omega), show ((p : Int) + (w : Int)).toNat = p + w by omega, Int.toNat_natCast, List.drop_take]
      congr 1; omega
    have hlt : ((x0.drop p).take w).length = w := by simp; omega
    have hrl := row_len w ((x0.drop p).take w) hlt
    have ih := run_l0 hw hx h (p + w) (x6 ++ rowF ((x0.drop p).take w)) (by omega) hs (by rw [List.length_append]; omega)
    rw [rows, List.drop_drop, ← List.append_assoc]
    refine Ev.step (f := fun k => bitmap_Runs.l1 k x0 (w : Int) x6 (p : Int) ((x0.drop p).take w)) (fun k => ?_) ?_
    · rw [bitmap_Runs.l0, e, if_pos (by omega), if_pos (by omega), if_pos (by rw [w64 (by omega) (by omega)]; omega), if_pos (by rw [w64 (by omega) (by omega)]; omega)]
    · refine run_l1 w _ _ hlt hw.2 (fun x q => hx x (List.mem_of_mem_drop (List.mem_of_mem_take q))) (by omega) ?_
      have e7 : wrap64 ((p : Int) + (w : Int)) = ((p + w : Nat) : Int) := by rw [w64 (by omega) (by omega)]; omega
      rw [e7]
      exact ih
def runF (l : List Int) (wide : Int) : List Int × Int := if (1 ≤ wide ∧ wide ≤ 64) ∧ bad l = false then (if 1 ≤ l.length ∧ l.length % wide.toNat = 0 ∧ l.length / wide.toNat ≤ 64 then (rows wide.toNat (l.length / wide.toNat) l, 0) else ([], 4)) else ([], 1)
theorem mod_nat {n w : Nat} : ((n : Int) % (w : Int)) = ((n % w : Nat) : Int) := by simp
theorem div_nat {n w : Nat} : ((n : Int) / (w : Int)) = ((n / w : Nat) : Int) := by simp
theorem mul_le {h w : Nat} (hh : h ≤ 64) (hw : w ≤ 64) : h * w ≤ 4096 := Nat.mul_le_mul hh hw
theorem ev_run {l : List Int} {wide : Int} (hl : l.length ≤ 5000) : Ev (fun k => bitmap_Runs.f k l wide) (runF l wide) := by
  unfold bitmap_Runs.f
  rw [within_p]
  simp only [Option.bind_some]
  by_cases hw : 1 ≤ wide ∧ wide ≤ 64
  · simp only [decide_eq_true hw.1, decide_eq_true hw.2, Bool.and_self, if_true]
    refine Ev.bind (ev_cont (by omega)) ?_
    cases hb : bad l with
    | true =>
      rw [runF, if_neg (by simp [hb])]
      exact Ev.step (f := fun _ => some ([], 1)) (fun k => by rw [bitmap_Runs.j0, if_pos rfl]) (Ev.now _)
    | false =>
      rw [runF, if_pos ⟨hw, hb⟩]
      obtain ⟨w, rfl⟩ : ∃ w : Nat, wide = (w : Int) := ⟨wide.toNat, by omega⟩
      simp only [Int.toNat_natCast]
      have bad4 : ∀ {y : Bool}, y = true → Ev (fun k => bitmap_Runs.j1 k l (w : Int) y) (([] : List Int), (4 : Int)) := by
        rintro y rfl
        exact Ev.step (f := fun _ => some ([], 4)) (fun k => by rw [bitmap_Runs.j1, if_pos rfl]) (Ev.now _)
      by_cases h1 : l.length = 0
      · rw [if_neg (by omega)]
        refine Ev.step (fun k => ?_) (bad4 rfl)
        rw [bitmap_Runs.j0, if_neg (by simp), if_pos (by omega)]
      · by_cases h2 : l.length % w = 0
        · have hd : l.length = l.length / w * w := by have := Nat.div_add_mod l.length w; rw [Nat.mul_comm] at this; omega
          have hdl : l.length / w ≤ l.length := Nat.div_le_self _ _
          have edn := div_nat (n := l.length) (w := w)
          obtain ⟨q, hq⟩ : ∃ q, l.length / w = q := ⟨_, rfl⟩
          rw [hq] at hd hdl edn ⊢
          refine Ev.step (f := fun k => bitmap_Runs.j1 k l (w : Int) (decide (wrap64 ((l.length : Int) / (w : Int)) > 64))) (fun k => ?_) ?_
          · rw [bitmap_Runs.j0, if_neg (by simp), if_neg (by omega), if_neg (by omega), mod_nat, h2, if_pos (by simp)]
          · rw [edn, w64 (by omega) (by omega)]
            by_cases h3 : q ≤ 64
            · rw [if_pos ⟨by omega, h2, h3⟩]
              have := run_l0 (x0 := l) (w := w) (by omega) (bad_not hb) q 0 [] (by omega) (by have := mul_le h3 (show w ≤ 64 by omega); omega) (by simp)
              refine Ev.step (fun k => ?_) this
              rw [bitmap_Runs.j1, decide_eq_false (by omega), if_neg (by simp)]
              rfl
            · rw [if_neg (by omega)]
              exact bad4 (decide_eq_true (by omega))
        · rw [if_neg (by omega)]
          refine Ev.step (fun k => ?_) (bad4 rfl)
          rw [bitmap_Runs.j0, if_neg (by simp), if_neg (by omega), if_neg (by omega), mod_nat, if_neg (by omega)]
  · rw [runF, if_neg (fun q => hw q.1)]
    have : (decide (1 ≤ wide) && decide (wide ≤ 64)) = false := by
      cases hq : (decide (1 ≤ wide) && decide (wide ≤ 64)) with
      | false => rfl
      | true => exact absurd (by simpa using hq) hw
    simp only [this]
    exact Ev.step (f := fun _ => some ([], 1)) (fun k => by simp only [Bool.false_eq_true, if_false]; rw [bitmap_Runs.j0, if_pos rfl]) (Ev.now _)
/-! The reference's runs. -/
end Go.Proofs.Ytaebgjdaoloceaa.PureB
