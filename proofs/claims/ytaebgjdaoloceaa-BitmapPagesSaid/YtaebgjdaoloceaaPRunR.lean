/- A lemma file: runs of pixels, of the reference. No condition. -/
import Derived.Test.YtaebgjdaoloceaaPRunP
import Derived.Test.YtaebgjdaoloceaaQBmpPx5
namespace Go.Proofs.Ytaebgjdaoloceaa.PureB
open Go.RowKit Go.Proofs.Ytaebgjdaoloceaa.QBmpP Go.Proofs.YtaebgjdaoloceaaW.PrintWords Go.Proofs.YtaebgjdaoloceaaW.PrintMore Go.Proofs.YtaebgjdaoloceaaV
theorem in_r (v a b : Int) : dioramaref19_in.f v a b = some (decide (a ≤ v) && decide (v ≤ b)) := by
  unfold dioramaref19_in.f
  by_cases h : v ≥ a
  · rw [if_pos h, decide_eq_true h, Bool.true_and]
  · rw [if_neg h, decide_eq_false h, Bool.false_and]
theorem all_l0 {l : List Int} (hl : l.length ≤ 9223372036854775807) : ∀ (t pre : List Int), pre ++ t = l → Ev (fun k => dioramaref19_all.l0 k l 0 15 (pre.length : Int)) (!bad t)
  | [], pre, hp => by
    obtain rfl : pre = l := by simpa using hp
    exact Ev.step (f := fun _ => some true) (fun k => by rw [dioramaref19_all.l0]; rw [if_neg (by omega)]) (Ev.now _)
  | a :: t, pre, hp => by
    have hlen : pre.length + (t.length + 1) = l.length := by rw [← hp]; simp
    have ea : rd l (pre.length : Int) = a := rd_at hp
    cases h : (decide (0 ≤ a) && decide (a ≤ 15)) with
    | true =>
      have h1 := all_l0 hl t (pre ++ [a]) (by simpa using hp)
      rw [next_n (by omega)] at h1
      have e : bad (a :: t) = bad t := by simp only [bad, List.any_cons, h, Bool.not_true, Bool.false_or]
      rw [e]
      refine Ev.step (fun k => ?_) h1
      rw [dioramaref19_all.l0, if_pos (by omega), if_pos (by omega), ea, in_r, h]
      rfl
    | false =>
      have e : bad (a :: t) = true := by simp only [bad, List.any_cons, h, Bool.not_false, Bool.true_or]
      rw [e]
      refine Ev.step (f := fun _ => some false) (fun k => ?_) (Ev.now _)
      rw [dioramaref19_all.l0, if_pos (by omega), if_pos (by omega), ea, in_r, h]
      rfl
theorem ev_all {l : List Int} (hl : l.length ≤ 9223372036854775807) : Ev (fun k => dioramaref19_all.f k l 0 15) (!bad l) := all_l0 hl l [] rfl
theorem row_l1 {x0 acc r : List Int} {pre : List Int} {c : Int} {t : List Int} (hx : pre ++ c :: t = x0) (hl : x0.length ≤ 4611686018427387904) : ∀ (v q : List Int), t = q ++ v → Ev (fun k => dioramaref19_row.j2 k x0 acc (pre.length : Int) (((q.length + 1 + heads c v : Nat) : Int))) r → Ev (fun k => dioramaref19_row.l1 k x0 acc (pre.length : Int) (((q.length + 1 : Nat) : Int))) r
  | [], q, hq, h => by
    have hlen : x0.length = pre.length + (q.length + 1) := by rw [← hx, hq]; simp
    refine Ev.step (fun k => ?_) h
    rw [dioramaref19_row.l1, if_neg (by rw [w64 (by omega) (by omega)]; omega)]; rfl
  | a :: v, q, hq, h => by
    have hlen : x0.length = pre.length + (q.length + 1 + (v.length + 1)) := by rw [← hx, hq]; simp; omega
    have ew : wrap64 ((pre.length : Int) + ((q.length + 1 : Nat) : Int)) = ((pre ++ c :: q).length : Int) := by
      rw [w64 (by omega) (by omega)]; simp only [List.length_append, List.length_cons]; omega
    have hlq : (pre ++ c :: q).length = pre.length + (q.length + 1) := by simp
    have ea : rd x0 ((pre ++ c :: q).length : Int) = a := rd_at (t := v) (by rw [← hx, hq]; simp)
    have ec : rd x0 (pre.length : Int) = c := rd_at hx
    by_cases e : a = c
    · subst e
      have ih := row_l1 hx hl v (q ++ [a]) (by simpa using hq) (by
        rw [heads, if_pos rfl] at h
        have e2 : (q ++ [a]).length + 1 + heads a v = q.length + 1 + (heads a v + 1) := by simp; omega
        rw [e2]; exact h)
      refine Ev.step (fun k => ?_) ih
      rw [dioramaref19_row.l1, ew, if_pos (by omega), if_pos (by omega), if_pos (by omega), if_pos (by omega), ea, ec, if_pos rfl]
      rw [w64 (by omega) (by omega)]
      simp only [List.length_append, List.length_cons, List.length_nil]
      rfl
    · rw [heads, if_neg e] at h
      refine Ev.step (fun k => ?_) h
      rw [dioramaref19_row.l1, ew, if_pos (by omega), if_pos (by omega), if_pos (by omega), if_pos (by omega), ea, ec, if_neg e]
theorem row_j2 {x0 acc r pre t : List Int} {c : Int} {n : Nat} (hx : pre ++ c :: t = x0) (hc : 0 ≤ c ∧ c ≤ 15) (hn : 1 ≤ n ∧ n ≤ t.length + 1) (hm : x0.length ≤ 64) (ha : acc.length ≤ 1099511627776) (h : Ev (fun k => dioramaref19_row.l0 k x0 (acc ++ code c n (t.length + 1)) ((pre.length + n : Nat) : Int)) r) : Ev (fun k => dioramaref19_row.j2 k x0 acc (pre.length : Int) (n : Int)) r := by
  have hlen : x0.length = pre.length + (t.length + 1) := by rw [← hx]; simp
  have ec : rd x0 (pre.length : Int) = c := rd_at hx
  have ew : wrap64 ((pre.length : Int) + (n : Int)) = ((pre.length + n : Nat) : Int) := by rw [w64 (by omega) (by omega)]; omega
  refine Ev.step (fun k => ?_) h
  rw [dioramaref19_row.j2, ew, ec]
  have e16 : wrap64 (16 * c) = 16 * c := w64 (by omega) (by omega)
  by_cases e : n = t.length + 1
  · rw [if_pos (by omega), if_pos (by omega), if_pos (by omega), if_pos (by omega), code, if_pos e, e16, show 16 * c % 256 = 16 * c by omega]
  · rw [if_neg (by omega), code, if_neg e]
    by_cases e2 : n ≤ 14
    · rw [if_pos (by omega), if_pos (by omega), if_pos (by omega), if_pos (by omega), if_pos e2, e16, w64 (by omega) (by omega), show (16 * c + (n : Int)) % 256 = 16 * c + n by omega]
    · rw [if_neg (by omega), if_neg e2, if_pos (by omega), if_pos (by omega)]
      simp only [Option.bind_some]
      rw [if_pos (by simp only [List.length_cons, List.length_nil]; omega), e16, w64 (x := 16 * c + 15) (by omega) (by omega), w64 (x := (n : Int) - 15) (by omega) (by omega), show (16 * c + 15) % 256 = 16 * c + 15 by omega, show ((n : Int) - 15) % 256 = n - 15 by omega]
theorem row_l0 {x0 : List Int} (hm : x0.length ≤ 64) (hv : ∀ x ∈ x0, 0 ≤ x ∧ x ≤ 15) : ∀ (n : Nat) (u pre acc : List Int), u.length = n → pre ++ u = x0 → acc.length + 2 * u.length ≤ 1099511627776 → Ev (fun k => dioramaref19_row.l0 k x0 acc (pre.length : Int)) (acc ++ rowF u) := by
  intro n
  induction n using Nat.strongRecOn with
  | ind n ih =>
  intro u pre acc hn hx ha
  match u, hn, hx, ha with
  | [], _, hx, _ =>
    have hlen : x0.length = pre.length := by rw [← hx]; simp
    rw [rowF, List.append_nil]
    exact Ev.step (f := fun _ => some acc) (fun k => by rw [dioramaref19_row.l0, if_neg (by omega)]) (Ev.now _)
  | c :: t, hn, hx, ha =>
    simp only [List.length_cons] at hn ha
    have hlen : x0.length = pre.length + (t.length + 1) := by rw [← hx]; simp
    have hhl := heads_le c t
    have hcl := code_len c (heads c t + 1) (t.length + 1)
    have e0 : pre.length + (heads c t + 1) = (pre ++ c :: t.take (heads c t)).length := by simp; omega
    have h1 := ih (t.drop (heads c t)).length (by simp; omega) (t.drop (heads c t)) (pre ++ c :: t.take (heads c t)) (acc ++ code c (heads c t + 1) (t.length + 1)) rfl (by rw [List.append_assoc, List.cons_append, List.take_append_drop]; exact hx) (by simp only [List.length_append, List.length_drop]; omega)
    rw [← e0] at h1
    have h2 : Ev (fun k => dioramaref19_row.l1 k x0 acc (pre.length : Int) ((([] : List Int).length + 1 : Nat) : Int)) (acc ++ rowF (c :: t)) := by
      refine row_l1 hx (by omega) t [] rfl ?_
      have e : ([] : List Int).length + 1 + heads c t = heads c t + 1 := by simp; omega
      rw [e]
      refine row_j2 hx (hv c (by rw [← hx]; simp)) (by omega) hm (by omega) ?_
      rw [rowF, ← List.append_assoc]
      exact h1
    refine Ev.step (fun k => ?_) h2
    rw [dioramaref19_row.l0, if_pos (by omega)]
    rfl
theorem ev_row {u : List Int} (hm : u.length ≤ 64) (hv : ∀ x ∈ u, 0 ≤ x ∧ x ≤ 15) : Ev (fun k => dioramaref19_row.f k u) (rowF u) := by
  have := row_l0 hm hv u.length u [] [] rfl rfl (by simp; omega)
  unfold dioramaref19_row.f
  simpa using this
theorem ref_l0 {x0 : List Int} {w : Nat} (hw : 1 ≤ w ∧ w ≤ 64) (hx : ∀ x ∈ x0, 0 ≤ x ∧ x ≤ 15) : ∀ (h p : Nat) (x6 : List Int), x0.length = p + h * w → x0.length ≤ 4096 → x6.length ≤ 128 * p → Ev (fun k => dioramaref19_Runs.l0 k x0 (w : Int) x6 (p : Int)) (x6 ++ rows w h (x0.drop p), 0)
  | 0, p, x6, hl, hs, ha => by
    refine Ev.step (f := fun _ => some (x6 ++ rows w 0 (x0.drop p), 0)) (fun k => ?_) (Ev.now _)
    rw [dioramaref19_Runs.l0, if_neg (by omega), rows, List.append_nil]
  | h + 1, p, x6, hl, hs, ha => by
    rw [Nat.succ_mul] at hl
    have e : (x0.take (wrap64 ((p : Int) + (w : Int))).toNat).drop (p : Int).toNat = (x0.drop p).take w := by
      rw [w64 (by omega) (by omega), show ((p : Int) + (w : Int)).toNat = p + w by omega, Int.toNat_natCast, List.drop_take]
      congr 1; omega
    have hlt : ((x0.drop p).take w).length = w := by simp; omega
    have hrl := row_len w ((x0.drop p).take w) hlt
    have ih := ref_l0 hw hx h (p + w) (x6 ++ rowF ((x0.drop p).take w)) (by omega) hs (by rw [List.length_append]; omega)
    have e7 : wrap64 ((p : Int) + (w : Int)) = ((p + w : Nat) : Int) := by rw [w64 (by omega) (by omega)]; omega
    rw [rows, List.drop_drop, ← List.append_assoc]
    refine Ev.step (f := fun k => (dioramaref19_row.f k ((x0.drop p).take w)).bind fun t => if x6.length + t.length < 140737488355328 then dioramaref19_Runs.l0 k x0 (w : Int) (x6 ++ t) ((p + w : Nat) : Int) else none) (fun k => ?_) ?_
    · rw [dioramaref19_Runs.l0, e, if_pos (by omega), if_pos (by omega), if_pos (by rw [w64 (by omega) (by omega)]; omega), if_pos (by rw [w64 (by omega) (by omega)]; omega), e7]
    · refine Ev.bind (ev_row (by omega) (fun x q => hx x (List.mem_of_mem_drop (List.mem_of_mem_take q)))) ?_
      simp only [if_pos (show x6.length + (rowF ((x0.drop p).take w)).length < 140737488355328 by omega)]
      exact ih
theorem ev_rrun {l : List Int} {wide : Int} (hl : l.length ≤ 5000) : Ev (fun k => dioramaref19_Runs.f k l wide) (runF l wide) := by
  unfold dioramaref19_Runs.f
  rw [in_r]
  simp only [Option.bind_some]
  by_cases hw : 1 ≤ wide ∧ wide ≤ 64
  · simp only [decide_eq_true hw.1, decide_eq_true hw.2, Bool.and_self, if_true]
    refine Ev.bind (ev_all (by omega)) ?_
    cases hb : bad l with
    | true =>
      rw [runF, if_neg (by simp [hb])]
      exact Ev.step (f := fun _ => some ([], 1)) (fun k => by rw [dioramaref19_Runs.j0, if_pos (show (!!true) = true from rfl)]) (Ev.now _)
    | false =>
      rw [runF, if_pos ⟨hw, hb⟩]
      obtain ⟨w, rfl⟩ : ∃ w : Nat, wide = (w : Int) := ⟨wide.toNat, by omega⟩
      simp only [Int.toNat_natCast]
      have bad4 : ∀ {y : Bool}, y = true → Ev (fun k => dioramaref19_Runs.j1 k l (w : Int) y) (([] : List Int), (4 : Int)) := by
        rintro y rfl
        exact Ev.step (f := fun _ => some ([], 4)) (fun k => by rw [dioramaref19_Runs.j1, if_pos rfl]) (Ev.now _)
      by_cases h2 : l.length % w = 0
      · have hd : l.length = l.length / w * w := by have := Nat.div_add_mod l.length w; rw [Nat.mul_comm] at this; omega
        have hdl : l.length / w ≤ l.length := Nat.div_le_self _ _
        have edn := div_nat (n := l.length) (w := w)
        obtain ⟨q, hq⟩ : ∃ q, l.length / w = q := ⟨_, rfl⟩
        rw [hq] at hd hdl edn ⊢
        refine Ev.step (f := fun k => dioramaref19_Runs.j1 k l (w : Int) (!(decide (1 ≤ ((q : Nat) : Int)) && decide (((q : Nat) : Int) ≤ 64)))) (fun k => ?_) ?_
        · rw [dioramaref19_Runs.j0, if_neg (by simp), if_neg (by omega), mod_nat, h2, if_pos (by simp), edn, w64 (by omega) (by omega), in_r]
          rfl
        · by_cases h3 : 1 ≤ q ∧ q ≤ 64
          · have h1 : 1 ≤ l.length := by omega
            rw [if_pos ⟨h1, h2, h3.2⟩]
            have := ref_l0 (x0 := l) (w := w) (by omega) (bad_not hb) q 0 [] (by omega) (by have := mul_le h3.2 (show w ≤ 64 by omega); omega) (by simp)
            refine Ev.step (fun k => ?_) this
            rw [dioramaref19_Runs.j1, decide_eq_true (by omega), decide_eq_true (by omega), if_neg (by simp)]
            rfl
          · have hz : q = 0 → l.length = 0 := fun q => by rw [q] at hd; simpa using hd
            rw [if_neg (by omega)]
            refine bad4 ?_
            simp only [Bool.not_eq_true', Bool.and_eq_false_iff, decide_eq_false_iff_not]
            omega
      · rw [if_neg (by omega)]
        refine Ev.step (fun k => ?_) (bad4 rfl)
        rw [dioramaref19_Runs.j0, if_neg (by simp), if_neg (by omega), mod_nat, if_neg (by omega)]
  · rw [runF, if_neg (fun q => hw q.1)]
    have : (decide (1 ≤ wide) && decide (wide ≤ 64)) = false := by
      cases hq : (decide (1 ≤ wide) && decide (wide ≤ 64)) with
      | false => rfl
      | true => exact absurd (by simpa using hq) hw
    simp only [this]
    exact Ev.step (f := fun _ => some ([], 1)) (fun k => by simp only [Bool.false_eq_true, if_false]; rw [dioramaref19_Runs.j0, if_pos (by rfl)]) (Ev.now _)
end Go.Proofs.Ytaebgjdaoloceaa.PureB
