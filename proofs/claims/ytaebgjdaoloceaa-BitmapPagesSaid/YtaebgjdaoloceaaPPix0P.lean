/- A lemma file: pixels of runs, of both sides. No condition. -/
import Derived.Test.YtaebgjdaoloceaaPRun0P
namespace Go.Proofs.Ytaebgjdaoloceaa.PureB
open Go.RowKit Go.Proofs.Ytaebgjdaoloceaa.QBmpP Go.Proofs.YtaebgjdaoloceaaW.PrintWords Go.Proofs.YtaebgjdaoloceaaV
theorem and15 {x : Int} (h : 0 ≤ x ∧ x ≤ 255) : Go.bits .and .u8 x 15 = x % 16 := by
  have := bits_mask .u8 8 (by decide) (fun n h0 h1 => by rw [IntKind.wrap_u8]; omega) 4 (by decide) x h.1 (by omega)
  simpa using this
theorem rep_f {c n : Int} (h : 1 ≤ n ∧ n ≤ 1000) : slices_Repeat_int_int.f [c] n = some (List.replicate n.toNat c) := by
  rw [slices_Repeat_int_int.f, if_pos (show ([c] : List Int).length = 1 from rfl), if_pos h.1, if_pos (by omega)]; rfl
section
variable {x1 x21 x22 : Int} {r : List Int × Int}
theorem pix_zero {b acc : List Int} {c : Int} (h : Ev (fun k => bitmap_Pixels.l0 k b x1 acc x21 (wrap64 (x22 + 1))) r) : Ev (fun k => bitmap_Pixels.l1 k b x1 acc c 0 x21 x22) r := by
  refine Ev.step (fun k => ?_) h
  rw [bitmap_Pixels.l1, if_neg (by omega)]
theorem Ev.step2 {α : Type} {g f : Nat → Option α} {r : α} (h : ∀ k, g (k + 2) = f k) (k : Ev f r) : Ev g r := Ev.step (f := fun k => g (k + 1)) (fun _ => rfl) (Ev.step (f := f) h k)
theorem wrap_zero (a : Int) : wrap64 (a - a) = 0 := by rw [Int.sub_self, w64 (by omega) (by omega)]
def pixS (k : Nat) (acc : List Int) (c : Int) (m : Nat) (t : List Int) (x1 v x21 x22 : Int) : Option (List Int × Int) := if acc.length + m < 17592186044416 then bitmap_Pixels.l1 k t x1 (acc ++ List.replicate m c) c v x21 x22 else none
theorem pix_a {acc : List Int} {before : Int} {left : Nat} {k : Nat} {x : Int} {t : List Int} (hx : 0 ≤ x ∧ x ≤ 255) (h0 : 1 ≤ left) (hm : left ≤ 64) (e : x % 16 = 0) (e2 : x / 16 = before) : bitmap_Pixels.l1 (k + 2) (x :: t) x1 acc before (left : Int) x21 x22 = some ([], 4) := by
  rw [bitmap_Pixels.l1, if_pos (by omega), if_neg (by simp; omega), if_pos (by simp <;> omega), if_pos (by simp; omega)]
  simp only [Option.bind_some, rd_zero, and15 hx]
  rw [w64 (x := x % 16) (by omega) (by omega), if_pos e, w64 (x := x / 16) (by omega) (by omega), bitmap_Pixels.j4, if_pos e2]
theorem pix_b {acc : List Int} {before : Int} {left : Nat} {k : Nat} {x : Int} {t : List Int} (hx : 0 ≤ x ∧ x ≤ 255) (h0 : 1 ≤ left) (hm : left ≤ 64) (e : x % 16 = 0) (e2 : ¬ x / 16 = before) : bitmap_Pixels.l1 (k + 2) (x :: t) x1 acc before (left : Int) x21 x22 = pixS k acc (x / 16) left t x1 0 x21 x22 := by
  rw [bitmap_Pixels.l1, if_pos (by omega), if_neg (by simp; omega), if_pos (by simp <;> omega), if_pos (by simp; omega)]
  simp only [Option.bind_some, rd_zero, and15 hx, drop_one]
  rw [w64 (x := x % 16) (by omega) (by omega), if_pos e, w64 (x := x / 16) (by omega) (by omega), bitmap_Pixels.j4, if_neg e2, rep_f (by omega), wrap_zero]
  simp only [Option.bind_some, Int.toNat_natCast, List.length_replicate]
  rfl
theorem pix_c {acc : List Int} {before : Int} {left : Nat} {k : Nat} {x : Int} (hx : 0 ≤ x ∧ x ≤ 255) (h0 : 1 ≤ left) (hm : left ≤ 64) (e : x % 16 = 15) : bitmap_Pixels.l1 (k + 1) [x] x1 acc before (left : Int) x21 x22 = some ([], 3) := by
  rw [bitmap_Pixels.l1, if_pos (by omega), if_neg (by simp), if_pos (by simp <;> omega), if_pos (by simp <;> omega)]
  simp only [Option.bind_some, rd_zero, and15 hx, drop_one]
  rw [w64 (x := x % 16) (by omega) (by omega), if_neg (by omega), if_pos e, if_pos (by simp <;> omega)]
theorem pix_d {acc : List Int} {before : Int} {left : Nat} {k : Nat} {x y : Int} {t : List Int} (hx : 0 ≤ x ∧ x ≤ 255) (hy : 0 ≤ y ∧ y ≤ 255) (h0 : 1 ≤ left) (hm : left ≤ 64) (e : x % 16 = 15) : bitmap_Pixels.l1 (k + 1) (x :: y :: t) x1 acc before (left : Int) x21 x22 = bitmap_Pixels.j3 k t x1 acc before (left : Int) (x / 16) (15 + y) x21 x22 (decide (15 + y > 63 ∨ 15 + y ≥ (left : Int))) := by
  rw [bitmap_Pixels.l1, if_pos (by omega), if_neg (by simp; omega), if_pos (by simp <;> omega), if_pos (by simp; omega)]
  simp only [Option.bind_some, rd_zero, and15 hx, drop_one]
  rw [w64 (x := x % 16) (by omega) (by omega), if_neg (by omega), if_pos e, if_neg (by simp; omega), if_pos (by simp <;> omega), if_pos (by simp; omega)]
  rw [e, w64 (x := y) (by omega) (by omega), w64 (x := 15 + y) (by omega) (by omega), w64 (x := x / 16) (by omega) (by omega)]
  by_cases e63 : 15 + y > 63
  · rw [if_pos e63, decide_eq_true (show 15 + y > 63 ∨ 15 + y ≥ (left : Int) from Or.inl e63)]
  · rw [if_neg e63]
    by_cases el : 15 + y ≥ (left : Int)
    · rw [decide_eq_true el, decide_eq_true (show 15 + y > 63 ∨ 15 + y ≥ (left : Int) from Or.inr el)]
    · rw [decide_eq_false el, decide_eq_false (show ¬ (15 + y > 63 ∨ 15 + y ≥ (left : Int)) by omega)]
theorem pix_e {acc : List Int} {before : Int} {left : Nat} {k : Nat} {x : Int} {t : List Int} (hx : 0 ≤ x ∧ x ≤ 255) (h0 : 1 ≤ left) (hm : left ≤ 64) (e : ¬ x % 16 = 0) (e' : ¬ x % 16 = 15) (e2 : x / 16 = before ∨ x % 16 ≥ (left : Int)) : bitmap_Pixels.l1 (k + 2) (x :: t) x1 acc before (left : Int) x21 x22 = some ([], 4) := by
  rw [bitmap_Pixels.l1, if_pos (by omega), if_neg (by simp; omega), if_pos (by simp <;> omega), if_pos (by simp; omega)]
  simp only [Option.bind_some, rd_zero, and15 hx]
  rw [w64 (x := x % 16) (by omega) (by omega), if_neg e, if_neg e', w64 (x := x / 16) (by omega) (by omega)]
  by_cases e3 : x % 16 ≥ (left : Int)
  · rw [if_pos e3]
  · rw [if_neg e3, bitmap_Pixels.j4, if_pos (by omega)]
theorem pix_f {acc : List Int} {before : Int} {left : Nat} {k : Nat} {x : Int} {t : List Int} (hx : 0 ≤ x ∧ x ≤ 255) (h0 : 1 ≤ left) (hm : left ≤ 64) (e : ¬ x % 16 = 0) (e' : ¬ x % 16 = 15) (e2 : ¬ (x / 16 = before ∨ x % 16 ≥ (left : Int))) : bitmap_Pixels.l1 (k + 2) (x :: t) x1 acc before (left : Int) x21 x22 = pixS k acc (x / 16) (x % 16).toNat t x1 (wrap64 ((left : Int) - x % 16)) x21 x22 := by
  rw [bitmap_Pixels.l1, if_pos (by omega), if_neg (by simp; omega), if_pos (by simp <;> omega), if_pos (by simp; omega)]
  simp only [Option.bind_some, rd_zero, and15 hx, drop_one]
  rw [w64 (x := x % 16) (by omega) (by omega), if_neg e, if_neg e', w64 (x := x / 16) (by omega) (by omega), if_neg (by omega), bitmap_Pixels.j4, if_neg (by omega), rep_f (by omega)]
  simp only [Option.bind_some, List.length_replicate]
  rfl
theorem pix_l1 : ∀ (n : Nat) (b acc : List Int) (left : Nat) (before : Int), b.length = n → left ≤ 64 → (∀ x ∈ b, 0 ≤ x ∧ x ≤ 255) → acc.length + left ≤ 8192 →
    ((decR b left before).2.2 = 0 → Ev (fun k => bitmap_Pixels.l0 k (decR b left before).2.1 x1 (acc ++ (decR b left before).1) x21 (wrap64 (x22 + 1))) r) → ((decR b left before).2.2 ≠ 0 → r = ([], (decR b left before).2.2)) →
    Ev (fun k => bitmap_Pixels.l1 k b x1 acc before (left : Int) x21 x22) r := by
  intro n
  induction n using Nat.strongRecOn with
  | ind n ih =>
  intro b acc left before hn hm hb ha h h'
  by_cases h0 : left = 0
  · subst h0
    rw [dec_zero] at h
    simp only [List.append_nil] at h
    exact pix_zero (h trivial)
  · have hleft : (left : Int) > 0 := by omega
    have stop : ∀ (e : Int), (decR b left before) = ([], [], e) → e ≠ 0 → r = ([], e) := by
      intro e he hne
      rw [he] at h'
      exact h' hne
    -- what comes behind a run of m
    have more : ∀ (c : Int) (m : Nat) (t : List Int), 1 ≤ m → m < left → t.length < n → (∀ x ∈ t, 0 ≤ x ∧ x ≤ 255) → decR b left before = (if (decR t (left - m) c).2.2 = 0 then (List.replicate m c ++ (decR t (left - m) c).1, (decR t (left - m) c).2.1, 0) else ([], [], (decR t (left - m) c).2.2)) →
        Ev (fun k => bitmap_Pixels.l1 k t x1 (acc ++ List.replicate m c) c (wrap64 ((left : Int) - (m : Int))) x21 x22) r := by
      intro c m t m1 m2 ht hbt he
      have ew : wrap64 ((left : Int) - (m : Int)) = ((left - m : Nat) : Int) := by rw [w64 (by omega) (by omega)]; omega
      rw [ew]
      rw [he] at h h'
      refine ih t.length ht t _ (left - m) c rfl (by omega) hbt (by simp; omega) (fun hz => ?_) (fun hz => ?_)
      · rw [if_pos hz] at h
        rw [List.append_assoc]
        exact h rfl
      · rw [if_neg hz] at h'
        exact h' hz
    match b, hn, hb, h, h', stop, more with
    | [], _, _, _, _, stop, _ =>
      rw [stop 3 (by rw [dec_nil, if_neg h0]) (by decide)]
      exact Ev.step (f := fun _ => some ([], 3)) (fun k => by rw [bitmap_Pixels.l1, if_pos hleft, if_pos (by simp <;> omega)]) (Ev.now _)
    | x :: t, hn, hb, h, h', stop, more =>
      have hx := hb x (by simp)
      simp only [List.length_cons] at hn
      by_cases e15 : x % 16 = 15
      · match t, hn, hb, stop, more with
        | [], _, _, stop, _ =>
          rw [stop 3 (dec_long1 h0 e15) (by decide)]
          exact Ev.step (f := fun _ => some ([], 3)) (fun k => pix_c hx (by omega) hm e15) (Ev.now _)
        | y :: t', hn, hb, stop, more =>
          have hy := hb y (by simp)
          simp only [List.length_cons] at hn
          have hd := dec_long (x := x) (y := y) (t := t') (c := before) h0 e15
          have open2 : ∀ k, bitmap_Pixels.l1 (k + 1) (x :: y :: t') x1 acc before (left : Int) x21 x22 = bitmap_Pixels.j3 k t' x1 acc before (left : Int) (x / 16) (15 + y) x21 x22 (decide (15 + y > 63 ∨ 15 + y ≥ (left : Int))) := by
            intro k
            exact pix_d hx hy (by omega) hm e15
          by_cases e1 : 15 + y > 63 ∨ 15 + y ≥ (left : Int)
          · have h4 : decR (x :: y :: t') left before = ([], [], 4) := by
              rw [hd]
              by_cases e2 : 15 + y > 63
              · rw [if_pos e2]
              · rw [if_neg e2, if_pos (by omega)]
            rw [stop 4 h4 (by decide)]
            refine Ev.step open2 (Ev.step (f := fun _ => some ([], 4)) (fun k => ?_) (Ev.now _))
            rw [bitmap_Pixels.j3, decide_eq_true e1, if_pos rfl]
          · by_cases e2 : x / 16 = before
            · have h4 : decR (x :: y :: t') left before = ([], [], 4) := by
                rw [hd, if_neg (by omega), if_pos (by omega)]
              rw [stop 4 h4 (by decide)]
              refine Ev.step open2 (Ev.step2 (f := fun _ => some ([], 4)) (fun k => ?_) (Ev.now _))
              rw [bitmap_Pixels.j3, decide_eq_false e1, if_neg (by simp), bitmap_Pixels.j4, if_pos e2]
            · rw [if_neg (by omega), if_neg (by omega)] at hd
              have hgo := more (x / 16) (15 + y).toNat t' (by omega) (by omega) (by omega) (fun z hz => hb z (by simp [hz])) hd
              rw [show (((15 + y).toNat : Nat) : Int) = 15 + y by omega] at hgo
              refine Ev.step open2 (Ev.step2 (fun k => ?_) hgo)
              rw [bitmap_Pixels.j3, decide_eq_false e1, if_neg (by simp), bitmap_Pixels.j4, if_neg e2, rep_f (by omega)]
              simp only [Option.bind_some, List.length_replicate]
              rw [if_pos (by omega)]
      · have hd := dec_short (x := x) (t := t) (c := before) h0 e15
        by_cases e2 : x / 16 = before ∨ x % 16 ≥ (left : Int)
        · rw [if_pos e2] at hd
          rw [stop 4 hd (by decide)]
          refine Ev.step2 (f := fun _ => some ([], 4)) (fun k => ?_) (Ev.now _)
          by_cases e0 : x % 16 = 0
          · exact pix_a hx (by omega) hm e0 (by omega)
          · exact pix_e hx (by omega) hm e0 e15 e2
        · rw [if_neg e2] at hd
          by_cases e0 : x % 16 = 0
          · rw [if_pos e0] at hd
            rw [hd] at h
            refine Ev.step2 (fun k => ?_) (pix_zero (c := x / 16) (h rfl))
            rw [pix_b hx (by omega) hm e0 (by omega), pixS, if_pos (by omega)]
          · rw [if_neg e0] at hd
            have hgo := more (x / 16) (x % 16).toNat t (by omega) (by omega) (by omega) (fun z hz => hb z (by simp [hz])) hd
            rw [show (((x % 16).toNat : Nat) : Int) = x % 16 by omega] at hgo
            refine Ev.step2 (fun k => ?_) hgo
            rw [pix_f hx (by omega) hm e0 e15 e2, pixS, if_pos (by omega)]
end
theorem dec_in : ∀ (n : Nat) (b : List Int) (left : Nat) (before : Int), b.length = n → (∀ x ∈ b, 0 ≤ x ∧ x ≤ 255) → ∀ x ∈ (decR b left before).2.1, 0 ≤ x ∧ x ≤ 255 := by
  intro n
  induction n using Nat.strongRecOn with
  | ind n ih =>
  intro b left before hn hb
  by_cases h0 : left = 0
  · subst h0; rw [dec_zero]; exact hb
  · match b, hn, hb with
    | [], _, _ => rw [dec_nil, if_neg h0]; simp
    | x :: t, hn, hb =>
      simp only [List.length_cons] at hn
      by_cases e15 : x % 16 = 15
      · match t, hn, hb with
        | [], _, _ => rw [dec_long1 h0 e15]; simp
        | y :: t', hn, hb =>
          simp only [List.length_cons] at hn
          rw [dec_long h0 e15]
          have := ih t'.length (by omega) t' (left - (15 + y).toNat) (x / 16) rfl (fun z hz => hb z (by simp [hz]))
          split
          · simp
          · split
            · simp
            · split
              · exact this
              · simp
      · rw [dec_short h0 e15]
        have := ih t.length (by omega) t (left - (x % 16).toNat) (x / 16) rfl (fun z hz => hb z (by simp [hz]))
        split
        · simp
        · split
          · exact fun z hz => hb z (by simp [hz])
          · split
            · exact this
            · simp
def endF (acc : List Int) (d : List Int × List Int × Int) : List Int × Int := if d.2.2 = 0 then (if d.2.1 = [] then (acc ++ d.1, 0) else ([], 4)) else ([], d.2.2)
theorem pix_l0 {w H : Nat} (hw : 1 ≤ w ∧ w ≤ 64) (hH : H ≤ 64) : ∀ (h i : Nat) (b acc : List Int), i + h = H → (∀ x ∈ b, 0 ≤ x ∧ x ≤ 255) → acc.length = i * w → Ev (fun k => bitmap_Pixels.l0 k b (w : Int) acc (H : Int) (i : Int)) (endF acc (decA w h b))
  | 0, i, b, acc, hi, hb, ha => by
    refine Ev.step (f := fun _ => some (endF acc (decA w 0 b))) (fun k => ?_) (Ev.now _)
    rw [bitmap_Pixels.l0, if_neg (by omega)]
    cases b with
    | nil => rw [if_neg (by simp)]; simp [endF, decA]
    | cons x t => rw [if_pos (by simp <;> omega)]; simp [endF, decA]
  | h + 1, i, b, acc, hi, hb, ha => by
    have hiw : i * w ≤ 64 * 64 := Nat.mul_le_mul (by omega) hw.2
    have hgo : Ev (fun k => bitmap_Pixels.l1 k b (w : Int) acc (-1) (w : Int) (H : Int) (i : Int)) (endF acc (decA w (h + 1) b)) := by
      refine pix_l1 b.length b acc w (-1) rfl hw.2 hb (by omega) (fun hz => ?_) (fun hz => ?_)
      · obtain ⟨i1, _⟩ := row_dec b.length b w (-1) rfl hw.2 hb hz
        have ih := pix_l0 hw hH h (i + 1) (decR b w (-1)).2.1 (acc ++ (decR b w (-1)).1) (by omega) (dec_in b.length b w (-1) rfl hb) (by rw [List.length_append, i1, ha, Nat.succ_mul])
        have e1 : wrap64 ((i : Int) + 1) = ((i + 1 : Nat) : Int) := by rw [w64 (by omega) (by omega)]; omega
        rw [e1]
        have e2 : endF acc (decA w (h + 1) b) = endF (acc ++ (decR b w (-1)).1) (decA w h (decR b w (-1)).2.1) := by
          rw [decA, if_pos hz]
          by_cases hz2 : (decA w h (decR b w (-1)).2.1).2.2 = 0
          · rw [if_pos hz2]
            simp only [endF, hz2, if_true, List.append_assoc]
          · rw [if_neg hz2]
            simp only [endF, hz2, if_false]
        rw [e2]
        exact ih
      · rw [decA, if_neg hz, endF, if_neg hz]
    refine Ev.step (fun k => ?_) hgo
    rw [bitmap_Pixels.l0, if_pos (by omega)]
def pixF (b : List Int) (wide high : Int) : List Int × Int := if (1 ≤ wide ∧ wide ≤ 64) ∧ (1 ≤ high ∧ high ≤ 64) then endF [] (decA wide.toNat high.toNat b) else ([], 1)
theorem both_not {a b v : Int} (h : ¬ (a ≤ v ∧ v ≤ b)) : (decide (a ≤ v) && decide (v ≤ b)) = false := by
  cases hq : (decide (a ≤ v) && decide (v ≤ b)) with
  | false => rfl
  | true => exact absurd (by simpa using hq) h
theorem ev_pix {b : List Int} {wide high : Int} (hb : ∀ x ∈ b, 0 ≤ x ∧ x ≤ 255) : Ev (fun k => bitmap_Pixels.f k b wide high) (pixF b wide high) := by
  unfold bitmap_Pixels.f
  rw [within_p, within_p]
  simp only [Option.bind_some]
  by_cases hw : 1 ≤ wide ∧ wide ≤ 64
  · simp only [decide_eq_true hw.1, decide_eq_true hw.2, Bool.and_self, if_true]
    by_cases hh : 1 ≤ high ∧ high ≤ 64
    · rw [pixF, if_pos ⟨hw, hh⟩]
      have := pix_l0 (w := wide.toNat) (H := high.toNat) (by omega) (by omega) high.toNat 0 b [] (by omega) hb (by simp)
      rw [show ((wide.toNat : Nat) : Int) = wide by omega, show ((high.toNat : Nat) : Int) = high by omega] at this
      refine Ev.step (fun k => ?_) this
      rw [bitmap_Pixels.j0, decide_eq_true hh.1, decide_eq_true hh.2, if_neg (by simp)]
      rfl
    · rw [pixF, if_neg (fun q => hh q.2), both_not hh]
      exact Ev.step (f := fun _ => some ([], 1)) (fun k => by rw [bitmap_Pixels.j0, if_pos (by simp <;> omega)]) (Ev.now _)
  · rw [pixF, if_neg (fun q => hw q.1)]
    simp only [both_not hw, Bool.false_eq_true, if_false]
    exact Ev.step (f := fun _ => some ([], 1)) (fun k => by rw [bitmap_Pixels.j0, if_pos (by simp <;> omega)]) (Ev.now _)
end Go.Proofs.Ytaebgjdaoloceaa.PureB
