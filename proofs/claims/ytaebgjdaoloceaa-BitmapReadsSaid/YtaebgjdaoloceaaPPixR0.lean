/- A lemma file: pixels of runs, of the reference. No condition. -/
import Derived.Test.YtaebgjdaoloceaaPPix0
namespace Go.Proofs.Ytaebgjdaoloceaa.PureB
open Go.RowKit Go.Proofs.Ytaebgjdaoloceaa.QBmpR Go.Proofs.YtaebgjdaoloceaaW.PrintWords Go.Proofs.YtaebgjdaoloceaaV
section
variable {b : List Int} {x1 x2 x10 : Int} {r : List Int × Int}
theorem rpx_l2 {at_ left c : Int} {n : Nat} (hn : n ≤ 64) : ∀ (m j : Nat) (acc : List Int), j + m = n → acc.length + m ≤ 100000 → Ev (fun k => dioramaref19_Pixels.l1 k b x1 x2 (acc ++ List.replicate m c) at_ x10 (wrap64 (left - (n : Int))) c) r → Ev (fun k => dioramaref19_Pixels.l2 k b x1 x2 acc at_ x10 left c (n : Int) (j : Int)) r
  | 0, j, acc, hj, ha, h => by
    rw [List.replicate_zero, List.append_nil] at h
    refine Ev.step (fun k => ?_) h
    rw [dioramaref19_Pixels.l2, if_neg (by omega)]
  | m + 1, j, acc, hj, ha, h => by
    have ih := rpx_l2 hn m (j + 1) (acc ++ [c]) (by omega) (by simp; omega) (by
      rw [List.replicate_succ] at h
      rwa [List.append_assoc, List.singleton_append])
    refine Ev.step (fun k => ?_) ih
    rw [dioramaref19_Pixels.l2, if_pos (by omega), if_pos (by omega), show wrap64 ((j : Int) + 1) = ((j + 1 : Nat) : Int) by rw [w64 (by omega) (by omega)]; omega]
theorem rpx_j3 {at_ c n before : Int} {left : Nat} {acc : List Int} (hn : 0 ≤ n) (hl : left ≤ 64) (ha : acc.length ≤ 10000) (h4 : c = before ∨ n ≥ (left : Int) → r = ([], 4))
    (h : ¬ (c = before ∨ n ≥ (left : Int)) → Ev (fun k => dioramaref19_Pixels.l1 k b x1 x2 (acc ++ List.replicate (if n = 0 then left else n.toNat) c) at_ x10 (wrap64 ((left : Int) - ((if n = 0 then left else n.toNat : Nat) : Int))) c) r) :
    Ev (fun k => dioramaref19_Pixels.j3 k b x1 x2 acc at_ x10 (left : Int) before c n) r := by
  by_cases e : c = before ∨ n ≥ (left : Int)
  · rw [h4 e]
    have stop : Ev (fun k => dioramaref19_Pixels.j4 k b x1 x2 acc at_ x10 (left : Int) c n true) (([] : List Int), (4 : Int)) :=
      Ev.step (f := fun _ => some ([], 4)) (fun k => by rw [dioramaref19_Pixels.j4, if_pos rfl]) (Ev.now _)
    refine Ev.step (fun k => ?_) stop
    rw [dioramaref19_Pixels.j3]
    by_cases e1 : c = before
    · rw [if_pos e1]
    · rw [if_neg e1, decide_eq_true (show n ≥ (left : Int) by omega)]
  · have h := h e
    refine Ev.step (f := fun k => dioramaref19_Pixels.j4 k b x1 x2 acc at_ x10 (left : Int) c n false) (fun k => ?_) ?_
    · rw [dioramaref19_Pixels.j3, if_neg (by omega), decide_eq_false (show ¬ n ≥ (left : Int) by omega)]
    · obtain ⟨m, hm⟩ : ∃ m, (if n = 0 then left else n.toNat) = m := ⟨_, rfl⟩
      rw [hm] at h
      have hm2 : m ≤ 64 ∧ (if n = 0 then (left : Int) else n) = (m : Int) := by
        by_cases q : n = 0
        · rw [if_pos q] at hm ⊢; omega
        · rw [if_neg q] at hm ⊢; omega
      have h2 := rpx_l2 (left := (left : Int)) hm2.1 m 0 acc (by omega) (by omega) h
      refine Ev.step (f := fun k => dioramaref19_Pixels.j5 k b x1 x2 acc at_ x10 (left : Int) c (m : Int)) (fun k => ?_) (Ev.step (fun k => ?_) h2)
      · rw [dioramaref19_Pixels.j4, if_neg (by simp)]
        by_cases q : n = 0
        · rw [if_pos q] at hm2 ⊢; rw [hm2.2]
        · rw [if_neg q] at hm2 ⊢; rw [hm2.2]
      · rw [dioramaref19_Pixels.j5]; rfl
theorem at_next {pre t : List Int} {x : Int} (h : pre ++ x :: t = b) (hb : b.length ≤ 100000) : wrap64 ((pre.length : Int) + 1) = ((pre ++ [x]).length : Int) ∧ (pre ++ [x]) ++ t = b := by
  have hl : b.length = pre.length + (t.length + 1) := by rw [← h]; simp
  refine ⟨?_, by rw [← h]; simp⟩
  rw [w64 (by omega) (by omega)]; simp
theorem rpx_l1 (hl : b.length ≤ 100000) : ∀ (n : Nat) (u pre acc : List Int) (left : Nat) (before : Int), u.length = n → pre ++ u = b → left ≤ 64 → (∀ x ∈ u, 0 ≤ x ∧ x ≤ 255) → acc.length + left ≤ 8192 →
    ((decR u left before).2.2 = 0 → ∀ pre', pre' ++ (decR u left before).2.1 = b → Ev (fun k => dioramaref19_Pixels.l0 k b x1 x2 (acc ++ (decR u left before).1) (pre'.length : Int) (wrap64 (x10 + 1))) r) → ((decR u left before).2.2 ≠ 0 → r = ([], (decR u left before).2.2)) →
    Ev (fun k => dioramaref19_Pixels.l1 k b x1 x2 acc (pre.length : Int) x10 (left : Int) before) r := by
  intro n
  induction n using Nat.strongRecOn with
  | ind n ih =>
  intro u pre acc left before hn hp hm hb ha h h'
  have zero : ∀ (c : Int) (acc' v pre' : List Int), pre' ++ v = b → Ev (fun k => dioramaref19_Pixels.l0 k b x1 x2 acc' (pre'.length : Int) (wrap64 (x10 + 1))) r → Ev (fun k => dioramaref19_Pixels.l1 k b x1 x2 acc' (pre'.length : Int) x10 0 c) r := by
    intro c acc' v pre' _ hz
    refine Ev.step (fun k => ?_) hz
    rw [dioramaref19_Pixels.l1, if_neg (by omega)]
  by_cases h0 : left = 0
  · subst h0
    rw [dec_zero] at h
    simp only [List.append_nil] at h
    exact zero before acc u pre hp (h trivial pre hp)
  · have hleft : (left : Int) > 0 := by omega
    have stop : ∀ (e : Int), (decR u left before) = ([], [], e) → e ≠ 0 → r = ([], e) := by
      intro e he hne
      rw [he] at h'
      exact h' hne
    have more : ∀ (c : Int) (m : Nat) (t pre' : List Int), pre' ++ t = b → 1 ≤ m → m < left → t.length < n → (∀ x ∈ t, 0 ≤ x ∧ x ≤ 255) → decR u left before = (if (decR t (left - m) c).2.2 = 0 then (List.replicate m c ++ (decR t (left - m) c).1, (decR t (left - m) c).2.1, 0) else ([], [], (decR t (left - m) c).2.2)) →
        Ev (fun k => dioramaref19_Pixels.l1 k b x1 x2 (acc ++ List.replicate m c) (pre'.length : Int) x10 (wrap64 ((left : Int) - (m : Int))) c) r := by
      intro c m t pre' hp' m1 m2 ht hbt he
      have ew : wrap64 ((left : Int) - (m : Int)) = ((left - m : Nat) : Int) := by rw [w64 (by omega) (by omega)]; omega
      rw [ew]
      rw [he] at h h'
      refine ih t.length ht t pre' _ (left - m) c rfl hp' (by omega) hbt (by simp; omega) (fun hz => ?_) (fun hz => ?_)
      · rw [if_pos hz] at h
        rw [List.append_assoc]
        exact h rfl
      · rw [if_neg hz] at h'
        exact h' hz
    match u, hn, hp, hb, h, h', stop, more with
    | [], _, hp, _, _, _, stop, _ =>
      have hlen : b.length = pre.length := by rw [← hp]; simp
      rw [stop 3 (by rw [dec_nil, if_neg h0]) (by decide)]
      exact Ev.step (f := fun _ => some ([], 3)) (fun k => by rw [dioramaref19_Pixels.l1, if_pos hleft, if_pos (by omega)]) (Ev.now _)
    | x :: t, hn, hp, hb, h, h', stop, more =>
      have hx := hb x (by simp)
      simp only [List.length_cons] at hn
      have hlen : b.length = pre.length + (t.length + 1) := by rw [← hp]; simp
      have ex : rd b (pre.length : Int) = x := rd_at hp
      obtain ⟨en, hp2⟩ := at_next hp hl
      have elq : (pre ++ [x]).length = pre.length + 1 := by simp
      have em : Int.tmod (wrap64 x) 16 = x % 16 := by rw [w64 (by omega) (by omega)]; exact Int.tmod_eq_emod_of_nonneg hx.1
      have ed : wrap64 (Int.tdiv (wrap64 x) 16) = x / 16 := by rw [w64 (x := x) (by omega) (by omega), Int.tdiv_eq_ediv_of_nonneg hx.1, w64 (by omega) (by omega)]
      by_cases e15 : x % 16 = 15
      · match t, hn, hp, hp2, hb, stop, more, hlen with
        | [], _, hp, hp2, _, stop, _, hlen =>
          rw [stop 3 (dec_long1 h0 e15) (by decide)]
          refine Ev.step (f := fun _ => some ([], 3)) (fun k => ?_) (Ev.now _)
          rw [dioramaref19_Pixels.l1, if_pos hleft, if_neg (by omega), if_pos (by omega), if_pos (by omega), ex, em, if_pos e15, en, if_pos (by rw [hlen] at *; simp)]
        | y :: t', hn, hp, hp2, hb, stop, more, hlen =>
          have hy := hb y (by simp)
          simp only [List.length_cons] at hn hlen
          obtain ⟨en2, hp3⟩ := at_next hp2 hl
          have ey : rd b ((pre ++ [x]).length : Int) = y := rd_at hp2
          have hd := dec_long (x := x) (y := y) (t := t') (c := before) h0 e15
          have e63w : wrap64 (15 + wrap64 y) = 15 + y := by rw [w64 (x := y) (by omega) (by omega), w64 (by omega) (by omega)]
          by_cases e63 : 15 + y > 63
          · rw [if_pos e63] at hd
            rw [stop 4 hd (by decide)]
            refine Ev.step (f := fun _ => some ([], 4)) (fun k => ?_) (Ev.now _)
            rw [dioramaref19_Pixels.l1, if_pos hleft, if_neg (by omega), if_pos (by omega), if_pos (by omega), ex, em, if_pos e15, en, if_neg (by omega), if_pos (by omega), if_pos (by omega), ey, e63w, if_pos e63]
          · rw [if_neg e63] at hd
            refine Ev.step (f := fun k => dioramaref19_Pixels.j3 k b x1 x2 acc (((pre ++ [x]) ++ [y]).length : Int) x10 (left : Int) before (x / 16) (15 + y)) (fun k => ?_) ?_
            · rw [dioramaref19_Pixels.l1, if_pos hleft, if_neg (by omega), if_pos (by omega), if_pos (by omega), ex, em, if_pos e15, en, if_neg (by omega), if_pos (by omega), if_pos (by omega), ey, e63w, if_neg e63, en2, ed]
            · refine rpx_j3 (by omega) hm (by omega) (fun q => ?_) (fun q => ?_)
              · rw [if_pos q] at hd
                exact stop 4 hd (by decide)
              · rw [if_neg q] at hd
                rw [if_neg (by omega)]
                exact more (x / 16) (15 + y).toNat t' _ hp3 (by omega) (by omega) (by omega) (fun z hz => hb z (by simp [hz])) hd
      · have hd := dec_short (x := x) (t := t) (c := before) h0 e15
        refine Ev.step (f := fun k => dioramaref19_Pixels.j3 k b x1 x2 acc ((pre ++ [x]).length : Int) x10 (left : Int) before (x / 16) (x % 16)) (fun k => ?_) ?_
        · rw [dioramaref19_Pixels.l1, if_pos hleft, if_neg (by omega), if_pos (by omega), if_pos (by omega), ex, em, if_neg e15, en, ed]
        · refine rpx_j3 (by omega) hm (by omega) (fun q => ?_) (fun q => ?_)
          · rw [if_pos q] at hd
            exact stop 4 hd (by decide)
          · rw [if_neg q] at hd
            by_cases e0 : x % 16 = 0
            · rw [if_pos e0] at hd
              rw [if_pos e0]
              rw [hd] at h
              have := zero (x / 16) _ t (pre ++ [x]) hp2 (h rfl (pre ++ [x]) hp2)
              rwa [show wrap64 ((left : Int) - (left : Int)) = 0 from wrap_zero _]
            · rw [if_neg e0] at hd
              rw [if_neg e0]
              exact more (x / 16) (x % 16).toNat t _ hp2 (by omega) (by omega) (by omega) (fun z hz => hb z (by simp [hz])) hd
end
theorem rpx_l0 {b : List Int} {w H : Nat} (hl : b.length ≤ 100000) (hw : 1 ≤ w ∧ w ≤ 64) (hH : H ≤ 64) : ∀ (h i : Nat) (u pre acc : List Int), pre ++ u = b → i + h = H → (∀ x ∈ u, 0 ≤ x ∧ x ≤ 255) → acc.length = i * w → Ev (fun k => dioramaref19_Pixels.l0 k b (w : Int) (H : Int) acc (pre.length : Int) (i : Int)) (endF acc (decA w h u))
  | 0, i, u, pre, acc, hp, hi, hb, ha => by
    refine Ev.step (f := fun _ => some (endF acc (decA w 0 u))) (fun k => ?_) (Ev.now _)
    rw [dioramaref19_Pixels.l0, if_neg (by omega)]
    have hlen : b.length = pre.length + u.length := by rw [← hp]; simp
    cases u with
    | nil => rw [if_neg (by simp at hlen; omega)]; simp [endF, decA]
    | cons x t => rw [if_pos (by simp at hlen; omega)]; simp [endF, decA]
  | h + 1, i, u, pre, acc, hp, hi, hb, ha => by
    have hiw : i * w ≤ 64 * 64 := Nat.mul_le_mul (by omega) hw.2
    have hgo : Ev (fun k => dioramaref19_Pixels.l1 k b (w : Int) (H : Int) acc (pre.length : Int) (i : Int) (w : Int) (-1)) (endF acc (decA w (h + 1) u)) := by
      refine rpx_l1 hl u.length u pre acc w (-1) rfl hp hw.2 hb (by omega) (fun hz pre' hp' => ?_) (fun hz => ?_)
      · obtain ⟨i1, _⟩ := row_dec u.length u w (-1) rfl hw.2 hb hz
        have ih := rpx_l0 hl hw hH h (i + 1) (decR u w (-1)).2.1 pre' (acc ++ (decR u w (-1)).1) hp' (by omega) (dec_in u.length u w (-1) rfl hb) (by rw [List.length_append, i1, ha, Nat.succ_mul])
        have e1 : wrap64 ((i : Int) + 1) = ((i + 1 : Nat) : Int) := by rw [w64 (by omega) (by omega)]; omega
        rw [e1]
        have e2 : endF acc (decA w (h + 1) u) = endF (acc ++ (decR u w (-1)).1) (decA w h (decR u w (-1)).2.1) := by
          rw [decA, if_pos hz]
          by_cases hz2 : (decA w h (decR u w (-1)).2.1).2.2 = 0
          · rw [if_pos hz2]
            simp only [endF, hz2, if_true, List.append_assoc]
          · rw [if_neg hz2]
            simp only [endF, hz2, if_false]
        rw [e2]
        exact ih
      · rw [decA, if_neg hz, endF, if_neg hz]
    refine Ev.step (fun k => ?_) hgo
    rw [dioramaref19_Pixels.l0, if_pos (by omega)]
theorem ev_rpix {b : List Int} {wide high : Int} (hl : b.length ≤ 100000) (hb : ∀ x ∈ b, 0 ≤ x ∧ x ≤ 255) : Ev (fun k => dioramaref19_Pixels.f k b wide high) (pixF b wide high) := by
  unfold dioramaref19_Pixels.f
  rw [in_r, in_r]
  simp only [Option.bind_some]
  by_cases hw : 1 ≤ wide ∧ wide ≤ 64
  · simp only [decide_eq_true hw.1, decide_eq_true hw.2, Bool.and_self, if_true]
    by_cases hh : 1 ≤ high ∧ high ≤ 64
    · rw [pixF, if_pos ⟨hw, hh⟩]
      have := rpx_l0 (w := wide.toNat) (H := high.toNat) hl (by omega) (by omega) high.toNat 0 b [] [] rfl (by omega) hb (by simp)
      rw [show ((wide.toNat : Nat) : Int) = wide by omega, show ((high.toNat : Nat) : Int) = high by omega] at this
      refine Ev.step (fun k => ?_) this
      rw [dioramaref19_Pixels.j0, decide_eq_true hh.1, decide_eq_true hh.2, if_neg (by simp)]
      rfl
    · rw [pixF, if_neg (fun q => hh q.2), both_not hh]
      exact Ev.step (f := fun _ => some ([], 1)) (fun k => by rw [dioramaref19_Pixels.j0, if_pos (by simp)]) (Ev.now _)
  · rw [pixF, if_neg (fun q => hw q.1)]
    simp only [both_not hw, Bool.false_eq_true, if_false]
    exact Ev.step (f := fun _ => some ([], 1)) (fun k => by rw [dioramaref19_Pixels.j0, if_pos (by simp)]) (Ev.now _)
end Go.Proofs.Ytaebgjdaoloceaa.PureB
