/- A lemma file: the runs of pixels, plain. No condition. -/
import Derived.Test.YtaebgjdaoloceaaVPlain
namespace Go.Proofs.Ytaebgjdaoloceaa.PureB
open Go.RowKit Go.Proofs.YtaebgjdaoloceaaW.PrintWords Go.Proofs.YtaebgjdaoloceaaV
def heads (c : Int) : List Int → Nat
  | [] => 0
  | x :: t => if x = c then heads c t + 1 else 0
theorem heads_le (c : Int) : ∀ l, heads c l ≤ l.length
  | [] => Nat.le_refl _
  | x :: t => by
    have := heads_le c t
    simp only [heads, List.length_cons]
    split <;> omega
theorem heads_take (c : Int) : ∀ l, l.take (heads c l) = List.replicate (heads c l) c
  | [] => rfl
  | x :: t => by
    simp only [heads]
    split
    · rename_i h
      rw [List.take_succ_cons, List.replicate_succ, heads_take c t, h]
    · rfl
theorem heads_end (c : Int) : ∀ l, heads c l < l.length → ∃ x u, l.drop (heads c l) = x :: u ∧ x ≠ c
  | [], h => by simp [heads] at h
  | x :: t, h => by
    simp only [heads] at h ⊢
    split at h
    · rename_i e
      rw [if_pos e]
      obtain ⟨y, u, h1, h2⟩ := heads_end c t (by simpa using h)
      exact ⟨y, u, by simpa using h1, h2⟩
    · rename_i e
      rw [if_neg e]
      exact ⟨x, t, rfl, e⟩
theorem heads_rep (c : Int) (u : List Int) (hu : ∀ x v, u = x :: v → x ≠ c) : ∀ n, heads c (List.replicate n c ++ u) = n
  | 0 => by
    match u, hu with
    | [], _ => rfl
    | x :: v, hu => simp [heads, hu x v rfl]
  | n + 1 => by
    rw [List.replicate_succ, List.cons_append, heads, if_pos rfl, heads_rep c u hu n]
def code (c : Int) (n m : Nat) : List Int := if n = m then [16 * c] else if n ≤ 14 then [16 * c + n] else [16 * c + 15, n - 15]
def rowF : List Int → List Int
  | [] => []
  | c :: t => code c (heads c t + 1) (t.length + 1) ++ rowF (t.drop (heads c t))
termination_by l => l.length
decreasing_by simp only [List.length_drop, List.length_cons]; omega
/-- Pixels, what is left of the bytes, and an error. -/
def decR : List Int → Nat → Int → List Int × List Int × Int
  | [], left, _ => if left = 0 then ([], [], 0) else ([], [], 3)
  | x :: t, left, before =>
    if left = 0 then ([], x :: t, 0)
    else if x % 16 = 15 then
      match t with
      | [] => ([], [], 3)
      | y :: t' =>
        if 15 + y > 63 then ([], [], 4)
        else if x / 16 = before ∨ 15 + y ≥ left then ([], [], 4)
        else if (decR t' (left - (15 + y).toNat) (x / 16)).2.2 = 0 then (List.replicate (15 + y).toNat (x / 16) ++ (decR t' (left - (15 + y).toNat) (x / 16)).1, (decR t' (left - (15 + y).toNat) (x / 16)).2.1, 0)
        else ([], [], (decR t' (left - (15 + y).toNat) (x / 16)).2.2)
    else if x / 16 = before ∨ x % 16 ≥ left then ([], [], 4)
    else if x % 16 = 0 then (List.replicate left (x / 16), t, 0)
    else if (decR t (left - (x % 16).toNat) (x / 16)).2.2 = 0 then (List.replicate (x % 16).toNat (x / 16) ++ (decR t (left - (x % 16).toNat) (x / 16)).1, (decR t (left - (x % 16).toNat) (x / 16)).2.1, 0)
    else ([], [], (decR t (left - (x % 16).toNat) (x / 16)).2.2)
theorem dec_nil {left : Nat} {c : Int} : decR [] left c = if left = 0 then ([], [], 0) else ([], [], 3) := by rw [decR]
theorem dec_zero {c : Int} : ∀ b, decR b 0 c = ([], b, 0)
  | [] => by rw [decR]; rfl
  | _ :: _ => by rw [decR.eq_def]; rfl
theorem dec_long1 {x : Int} {left : Nat} {c : Int} (h : left ≠ 0) (hx : x % 16 = 15) : decR [x] left c = ([], [], 3) := by rw [decR.eq_def]; simp only [if_neg h, if_pos hx]
theorem dec_long {x y : Int} {t : List Int} {left : Nat} {c : Int} (h : left ≠ 0) (hx : x % 16 = 15) : decR (x :: y :: t) left c = (if 15 + y > 63 then ([], [], 4)
        else if x / 16 = c ∨ 15 + y ≥ left then ([], [], 4)
        else if (decR t (left - (15 + y).toNat) (x / 16)).2.2 = 0 then (List.replicate (15 + y).toNat (x / 16) ++ (decR t (left - (15 + y).toNat) (x / 16)).1, (decR t (left - (15 + y).toNat) (x / 16)).2.1, 0)
        else ([], [], (decR t (left - (15 + y).toNat) (x / 16)).2.2)) := by rw [decR.eq_def]; simp only [if_neg h, if_pos hx]
theorem dec_short {x : Int} {t : List Int} {left : Nat} {c : Int} (h : left ≠ 0) (hx : x % 16 ≠ 15) : decR (x :: t) left c = (if x / 16 = c ∨ x % 16 ≥ left then ([], [], 4)
    else if x % 16 = 0 then (List.replicate left (x / 16), t, 0)
    else if (decR t (left - (x % 16).toNat) (x / 16)).2.2 = 0 then (List.replicate (x % 16).toNat (x / 16) ++ (decR t (left - (x % 16).toNat) (x / 16)).1, (decR t (left - (x % 16).toNat) (x / 16)).2.1, 0)
    else ([], [], (decR t (left - (x % 16).toNat) (x / 16)).2.2)) := by
  match t with
  | [] => rw [decR.eq_def]; simp only [if_neg h, if_neg hx]
  | _ :: _ => rw [decR.eq_def]; simp only [if_neg h, if_neg hx]
theorem div16 (c : Int) (m : Nat) (h : m ≤ 15) : (16 * c + (m : Int)) / 16 = c := by omega
theorem mod16 (c : Int) (m : Nat) (h : m ≤ 15) : ((16 * c + (m : Int)) % 16).toNat = m := by omega
theorem div16' (c : Int) : (16 * c + 15) / 16 = c := by omega
theorem plus15 (m : Nat) : (15 + ((m : Int) - 15)).toNat = m := by omega
theorem side (c b : Int) (m l : Nat) (h : m ≤ 14) (h1 : m < l) (hc : ¬ c = b) : ¬ ((16 * c + (m : Int)) / 16 = b ∨ (16 * c + (m : Int)) % 16 ≥ (l : Int)) := by omega
theorem side' (c b : Int) (l m : Nat) (h1 : m < l) (hc : ¬ c = b) : ¬ ((16 * c + 15) / 16 = b ∨ 15 + ((m : Int) - 15) ≥ (l : Int)) := by omega
/-- A coded row reads as the row. -/
theorem dec_row : ∀ (n : Nat) (r rest : List Int) (before : Int), r.length = n → n ≤ 64 → (∀ x ∈ r, 0 ≤ x ∧ x ≤ 15) → (∀ x u, r = x :: u → x ≠ before) → decR (rowF r ++ rest) r.length before = (r, rest, 0) := by
  intro n
  induction n using Nat.strongRecOn with
  | ind n ih =>
  intro r rest before hn hm hr hb
  match r, hn, hr, hb with
  | [], _, _, _ => rw [rowF, List.length_nil, dec_zero]; rfl
  | c :: t, hn, hr, hb =>
    have hc := hr c (by simp)
    have hcb : ¬ c = before := hb c t rfl
    have hl := heads_le c t
    have ht := heads_take c t
    have hE := heads_end c t
    simp only [List.length_cons] at hn
    rw [rowF]
    obtain ⟨m, hm1⟩ : ∃ m, heads c t = m := ⟨_, rfl⟩
    rw [hm1] at hl ht hE ⊢
    have et : List.replicate (m + 1) c ++ t.drop m = c :: t := by rw [List.replicate_succ, List.cons_append, ← ht, List.take_append_drop]
    have hd : ∀ x ∈ t.drop m, 0 ≤ x ∧ x ≤ 15 := fun x hx => hr x (by simp [List.mem_of_mem_drop hx])
    by_cases e : m = t.length
    · have e0 : t.drop m = [] := by rw [e]; simp
      rw [e0, List.append_nil] at et
      rw [code, if_pos (by omega), e0, rowF, List.append_nil, List.cons_append, List.nil_append, dec_short (by simp) (by omega), if_neg (by simp only [List.length_cons]; omega), if_pos (by omega)]
      rw [show 16 * c / 16 = c by omega, List.length_cons, ← e, et]
    · obtain ⟨x, u, hx, hxc⟩ := hE (by omega)
      have hih := ih (t.drop m).length (by simp; omega) (t.drop m) rest c rfl (by simp; omega) hd (fun y v hy => by rw [hx] at hy; injection hy with h1; rw [← h1]; exact hxc)
      have hlen : (t.drop m).length = t.length - m := by simp
      rw [hlen] at hih
      by_cases e2 : m + 1 ≤ 14
      · rw [code, if_neg (by omega), if_pos e2, List.append_assoc, List.cons_append, List.nil_append, dec_short (by simp) (by omega), if_neg (side c before (m + 1) _ (by omega) (by simp only [List.length_cons]; omega) hcb), if_neg (by omega)]
        rw [div16 c (m + 1) (by omega), mod16 c (m + 1) (by omega), List.length_cons, show t.length + 1 - (m + 1) = t.length - m from Nat.add_sub_add_right _ _ _, hih]
        rw [if_pos rfl]
        simp only
        rw [et]
      · rw [code, if_neg (by omega), if_neg e2, List.append_assoc, List.cons_append, List.cons_append, List.nil_append, dec_long (by simp) (by omega), if_neg (by omega), if_neg (side' c before _ (m + 1) (by simp only [List.length_cons]; omega) hcb)]
        rw [div16' c, plus15 (m + 1), List.length_cons, show t.length + 1 - (m + 1) = t.length - m from Nat.add_sub_add_right _ _ _, hih]
        rw [if_pos rfl]
        simp only
        rw [et]
/-- What is read is a row, and its coding is what was read. -/
theorem row_dec : ∀ (n : Nat) (b : List Int) (left : Nat) (before : Int), b.length = n → left ≤ 64 → (∀ x ∈ b, 0 ≤ x ∧ x ≤ 255) → (decR b left before).2.2 = 0 → (decR b left before).1.length = left ∧ (∀ x ∈ (decR b left before).1, 0 ≤ x ∧ x ≤ 15) ∧ (∀ x u, (decR b left before).1 = x :: u → x ≠ before) ∧ b = rowF (decR b left before).1 ++ (decR b left before).2.1 := by
  intro n
  induction n using Nat.strongRecOn with
  | ind n ih =>
  intro b left before hn hm hb h
  by_cases h0 : left = 0
  · subst h0
    rw [dec_zero]
    simp [rowF]
  · have key : ∀ (c : Int) (m : Nat) (t : List Int), 0 ≤ c → c ≤ 15 → c ≠ before → 1 ≤ m → m < left → t.length < n → (∀ x ∈ t, 0 ≤ x ∧ x ≤ 255) → (decR t (left - m) c).2.2 = 0 → b = code c m left ++ t →
        (List.replicate m c ++ (decR t (left - m) c).1).length = left ∧ (∀ x ∈ List.replicate m c ++ (decR t (left - m) c).1, 0 ≤ x ∧ x ≤ 15) ∧ (∀ x u, List.replicate m c ++ (decR t (left - m) c).1 = x :: u → x ≠ before) ∧ b = rowF (List.replicate m c ++ (decR t (left - m) c).1) ++ (decR t (left - m) c).2.1 := by
      intro c m t c0 c1 c2 m1 m2 ht hbt hz hbb
      obtain ⟨i1, i2, i3, i4⟩ := ih t.length ht t (left - m) c rfl (by omega) hbt hz
      obtain ⟨d, hd⟩ : ∃ d, decR t (left - m) c = d := ⟨_, rfl⟩
      rw [hd] at i1 i2 i3 i4 ⊢
      obtain ⟨m', rfl⟩ : ∃ m', m = m' + 1 := ⟨m - 1, by omega⟩
      refine ⟨by simp; omega, ?_, ?_, ?_⟩
      · intro x hx
        rcases List.mem_append.mp hx with hx | hx
        · rw [(List.mem_replicate.mp hx).2]; exact ⟨c0, c1⟩
        · exact i2 x hx
      · intro x u hx
        rw [List.replicate_succ, List.cons_append] at hx
        injection hx with hx
        rw [← hx]; exact c2
      · rw [List.replicate_succ, List.cons_append, rowF, heads_rep c d.1 i3 m']
        have e1 : (List.replicate m' c ++ d.1).length + 1 = left := by simp; omega
        have e2 : (List.replicate m' c ++ d.1).drop m' = d.1 := by rw [List.drop_append_of_le_length (by simp)]; simp
        rw [e1, e2, hbb, i4, List.append_assoc]
    match b, hn, hb, h with
    | [], _, _, h => rw [dec_nil, if_neg h0] at h; simp at h
    | x :: t, hn, hb, h =>
      have hx := hb x (by simp)
      simp only [List.length_cons] at hn
      by_cases e : x % 16 = 15
      · match t, hn, hb, h with
        | [], _, _, h => rw [dec_long1 h0 e] at h; simp at h
        | y :: t', hn, hb, h =>
          have hy := hb y (by simp)
          simp only [List.length_cons] at hn
          rw [dec_long h0 e] at h ⊢
          by_cases e1 : 15 + y > 63
          · rw [if_pos e1] at h; simp at h
          · rw [if_neg e1] at h ⊢
            by_cases e2 : x / 16 = before ∨ 15 + y ≥ left
            · rw [if_pos e2] at h; simp at h
            · rw [if_neg e2] at h ⊢
              by_cases e3 : (decR t' (left - (15 + y).toNat) (x / 16)).2.2 = 0
              · rw [if_pos e3]
                exact key (x / 16) (15 + y).toNat t' (by omega) (by omega) (by omega) (by omega) (by omega) (by omega) (fun z hz => hb z (by simp [hz])) e3 (by
                  rw [code, if_neg (by omega), if_neg (by omega), show 16 * (x / 16) + 15 = x by omega, show (((15 + y).toNat : Nat) : Int) - 15 = y by omega]; rfl)
              · rw [if_neg e3] at h; exact absurd h e3
      · rw [dec_short h0 e] at h ⊢
        by_cases e2 : x / 16 = before ∨ x % 16 ≥ left
        · rw [if_pos e2] at h; simp at h
        · rw [if_neg e2] at h ⊢
          by_cases e1 : x % 16 = 0
          · rw [if_pos e1]
            obtain ⟨m, rfl⟩ : ∃ m, left = m + 1 := ⟨left - 1, by omega⟩
            refine ⟨by simp, fun z hz => ?_, fun z u hz => ?_, ?_⟩
            · rw [(List.mem_replicate.mp hz).2]; omega
            · rw [List.replicate_succ] at hz
              injection hz with hz
              omega
            · have e5 := heads_rep (x / 16) [] (by simp) m
              rw [List.append_nil] at e5
              rw [List.replicate_succ, rowF, e5, code, if_pos (by simp), show 16 * (x / 16) = x by omega]
              simp [rowF]
          · rw [if_neg e1] at h ⊢
            by_cases e3 : (decR t (left - (x % 16).toNat) (x / 16)).2.2 = 0
            · rw [if_pos e3]
              exact key (x / 16) (x % 16).toNat t (by omega) (by omega) (by omega) (by omega) (by omega) (by omega) (fun z hz => hb z (by simp [hz])) e3 (by
                rw [code, if_neg (by omega), if_pos (by omega), show 16 * (x / 16) + (((x % 16).toNat : Nat) : Int) = x by omega]; rfl)
            · rw [if_neg e3] at h; exact absurd h e3
/-! Rows of pixels. -/
def rows (w : Nat) : Nat → List Int → List Int
  | 0, _ => []
  | h + 1, l => rowF (l.take w) ++ rows w h (l.drop w)
def decA (w : Nat) : Nat → List Int → List Int × List Int × Int
  | 0, b => ([], b, 0)
  | h + 1, b => if (decR b w (-1)).2.2 = 0 then (if (decA w h (decR b w (-1)).2.1).2.2 = 0 then ((decR b w (-1)).1 ++ (decA w h (decR b w (-1)).2.1).1, (decA w h (decR b w (-1)).2.1).2.1, 0) else ([], [], (decA w h (decR b w (-1)).2.1).2.2)) else ([], [], (decR b w (-1)).2.2)
theorem dec_rows (w : Nat) (hw : w ≤ 64) : ∀ (h : Nat) (l rest : List Int), l.length = h * w → (∀ x ∈ l, 0 ≤ x ∧ x ≤ 15) → decA w h (rows w h l ++ rest) = (l, rest, 0)
  | 0, l, rest, hl, _ => by
    have : l = [] := List.eq_nil_of_length_eq_zero (by simpa using hl)
    subst this; rfl
  | h + 1, l, rest, hl, hx => by
    rw [Nat.succ_mul] at hl
    have e := dec_row w (l.take w) (rows w h (l.drop w) ++ rest) (-1) (by simp; omega) hw (fun x q => hx x (List.mem_of_mem_take q)) (fun x u q => by
      have := hx x (List.mem_of_mem_take (by rw [q]; simp)); omega)
    have el : (l.take w).length = w := by simp; omega
    rw [el] at e
    have e2 := dec_rows w hw h (l.drop w) rest (by simp; omega) (fun x q => hx x (List.mem_of_mem_drop q))
    rw [decA, rows, List.append_assoc, e]
    simp only [e2, if_true]
    rw [List.take_append_drop]
theorem rows_dec (w : Nat) (hw : w ≤ 64) : ∀ (h : Nat) (b : List Int), (∀ x ∈ b, 0 ≤ x ∧ x ≤ 255) → (decA w h b).2.2 = 0 → (decA w h b).1.length = h * w ∧ (∀ x ∈ (decA w h b).1, 0 ≤ x ∧ x ≤ 15) ∧ b = rows w h (decA w h b).1 ++ (decA w h b).2.1
  | 0, b, _, _ => by simp [decA, rows]
  | h + 1, b, hb, hz => by
    rw [decA] at hz ⊢
    by_cases e : (decR b w (-1)).2.2 = 0
    · rw [if_pos e] at hz ⊢
      obtain ⟨i1, i2, i3, i4⟩ := row_dec b.length b w (-1) rfl hw hb e
      by_cases e2 : (decA w h (decR b w (-1)).2.1).2.2 = 0
      · rw [if_pos e2]
        have hb2 : ∀ x ∈ (decR b w (-1)).2.1, 0 ≤ x ∧ x ≤ 255 := fun x q => hb x (by rw [i4]; simp [q])
        obtain ⟨j1, j2, j3⟩ := rows_dec w hw h _ hb2 e2
        refine ⟨by simp only [List.length_append, i1, j1, Nat.succ_mul]; omega, fun x q => ?_, ?_⟩
        · rcases List.mem_append.mp q with q | q
          · exact i2 x q
          · exact j2 x q
        · simp only
          rw [rows, List.take_append_of_le_length (by omega), List.take_of_length_le (by omega), List.drop_append_of_le_length (by omega), List.drop_of_length_le (by omega), List.nil_append, List.append_assoc, ← j3]
          exact i4
      · rw [if_neg e2] at hz; exact absurd hz e2
    · rw [if_neg e] at hz; exact absurd hz e
end Go.Proofs.Ytaebgjdaoloceaa.PureB
