/- A lemma file: the bytes of a page, as a function on lists; the program's Encode comes to it. No condition. -/
import Derived.Test.YtaebgjdaoloceaaPChkP
import Derived.Test.YtaebgjdaoloceaaPRunP
import Derived.Test.YtaebgjdaoloceaaPPut
import Derived.Test.YtaebgjdaoloceaaPSumP
import Derived.Test.YtaebgjdaoloceaaQBmpPx5
namespace Go.Proofs.Ytaebgjdaoloceaa.PureB
open Go.RowKit Go.Proofs.Ytaebgjdaoloceaa.QBmpP Go.Proofs.YtaebgjdaoloceaaW.PrintWords Go.Proofs.YtaebgjdaoloceaaW.PrintMore Go.Proofs.YtaebgjdaoloceaaV Go.Proofs.Ytaebgjdaoloceaa.Pure Go.Proofs.Ytaebgjdaoloceaa.PureD
def pchB (x : S91) : List Int := (putS x.f0 2).1 ++ (putS x.f1 2).1 ++ [x.f2 % 256, x.f3 % 256] ++ (putS ((runF x.f4 x.f2).1.length : Int) 2).1 ++ (runF x.f4 x.f2).1
def palB (l : List Int) : List Int := l.flatMap (fun c => (putS c 3).1)
def headB (cl : Bool) (pal : List Int) (pp : List S91) : List Int := [if cl = true then 1 else 0, (pal.length : Int) % 256] ++ palB pal ++ [(pp.length : Int) % 256] ++ pp.flatMap pchB
def encF (cl : Bool) (pal : List Int) (pp : List S91) : List Int × Int := if checkF pal pp = 0 then (headB cl pal pp ++ (putS (sumS (headB cl pal pp)) 4).1, 0) else ([], checkF pal pp)
theorem num_ev {l : List Int} {v n : Int} (hv : v ≤ 9223372036854775807) (hl : l.length ≤ 140737488000000) : Ev (fun k => bitmap_number.f k l v n) (l ++ (putS v n).1) := by
  unfold bitmap_number.f
  refine Ev.bind (put_ev hv) ?_
  have := putS_length (v := v) (n := n)
  simp only [if_pos (show l.length + (putS v n).1.length < 140737488355328 by omega)]
  exact Ev.now _
theorem rows_len (w : Nat) : ∀ (h : Nat) (l : List Int), (rows w h l).length ≤ 2 * l.length
  | 0, _ => by simp [rows]
  | h + 1, l => by
    have h1 := row_len (l.take w).length (l.take w) rfl
    have h2 := rows_len w h (l.drop w)
    rw [rows, List.length_append]
    rw [List.length_take] at h1
    rw [List.length_drop] at h2
    omega
theorem runF_len {l : List Int} {w : Int} (h : l.length ≤ 5000) : (runF l w).1.length ≤ 10000 := by
  unfold runF
  split
  · split
    · have := rows_len w.toNat (l.length / w.toNat) l
      simp only
      omega
    · simp
  · simp
theorem enc_l1 {pp : List S91} (hv : ∀ x ∈ pp, x.f4.length ≤ 5000 ∧ x.f0 ≤ 9223372036854775807 ∧ x.f1 ≤ 9223372036854775807) (hp : pp.length ≤ 20) : ∀ (t : List S91) (i : Nat) (acc : List Int), pp.drop i = t → i ≤ pp.length → acc.length ≤ 1000 + 20000 * i → (∀ y ∈ acc ++ t.flatMap pchB, 0 ≤ y ∧ y ≤ 255) →
    Ev (fun k => bitmap_Encode.l1 k acc pp (pp.length : Int) (i : Int)) ((acc ++ t.flatMap pchB) ++ (putS (sumS (acc ++ t.flatMap pchB)) 4).1, 0)
  | [], i, acc, h, hi, ha, hb => by
    have hi2 : i = pp.length := by have h2 := congrArg List.length h; simp at h2; omega
    simp only [List.flatMap_nil, List.append_nil] at hb ⊢
    have hs : sumS acc ≤ 4294967295 ∧ 0 ≤ sumS acc := by
      unfold sumS
      have h := crc_lt acc (s := 4294967295) (by decide) hb
      have h2 := xor_lt32 h (b := 4294967295) (by decide)
      omega
    refine Ev.step (f := fun k => (bits_Sum.f k acc).bind fun t248 => (bitmap_number.f k acc (wrap64 t248) 4).bind fun t249 => some (t249, 0)) (fun k => ?_) (Ev.bind (sum_ev (by omega) hb) ?_)
    · simp only [bitmap_Encode.l1]
      rw [if_neg (by omega)]
    · rw [w64 (by omega) (by omega)]
      exact Ev.bind (num_ev (by omega) (by omega)) (Ev.now _)
  | x :: t, i, acc, h, hi, ha, hb => by
    have hx : x ∈ pp := List.mem_of_mem_drop (by rw [h]; simp)
    obtain ⟨h5, h6, h7⟩ := hv x hx
    obtain ⟨hi1, hd, _⟩ := drop_at h
    have hrl := runF_len (w := x.f2) h5
    have l0 := putS_length (v := x.f0) (n := 2)
    have l1 := putS_length (v := x.f1) (n := 2)
    have l2 := putS_length (v := ((runF x.f4 x.f2).1.length : Int)) (n := 2)
    have e : acc ++ (x :: t).flatMap pchB = (acc ++ pchB x) ++ t.flatMap pchB := by simp
    have ih := enc_l1 hv hp t (i + 1) (acc ++ pchB x) hd (by omega) (by simp only [pchB, List.length_append, List.length_cons, List.length_nil]; omega) (by rw [← e]; exact hb)
    rw [e]
    refine Ev.step (f := fun k => (bitmap_Runs.f k x.f4 x.f2).bind fun bt254 => (bitmap_number.f k acc x.f0 2).bind fun t258 => (bitmap_number.f k t258 x.f1 2).bind fun t261 => (some ([x.f2 % 256, x.f3 % 256] : List Int)).bind fun y264 => if t261.length + y264.length < 140737488355328 then (bitmap_number.f k (t261 ++ y264) (bt254.1.length : Int) 2).bind fun t270 => (if t270.length + bt254.1.length < 140737488355328 then bitmap_Encode.l1 k (t270 ++ bt254.1) pp (pp.length : Int) (wrap64 ((i : Int) + 1)) else none) else none) (fun k => ?_) ?_
    · simp only [bitmap_Encode.l1]
      rw [if_pos (by omega), if_pos (by omega), if_pos (by omega), rd91 h]
    · refine Ev.bind (ev_run h5) (Ev.bind (num_ev h6 (by omega)) (Ev.bind (num_ev h7 (by rw [List.length_append]; omega)) ?_))
      simp only [Option.bind_some]
      simp only [if_pos (show (acc ++ (putS x.f0 2).1 ++ (putS x.f1 2).1).length + [x.f2 % 256, x.f3 % 256].length < 140737488355328 by simp only [List.length_append, List.length_cons, List.length_nil]; omega)]
      refine Ev.bind (num_ev (by omega) (by simp only [List.length_append, List.length_cons, List.length_nil]; omega)) ?_
      simp only [if_pos (show (acc ++ (putS x.f0 2).1 ++ (putS x.f1 2).1 ++ [x.f2 % 256, x.f3 % 256] ++ (putS ((runF x.f4 x.f2).1.length : Int) 2).1).length + (runF x.f4 x.f2).1.length < 140737488355328 by simp only [List.length_append, List.length_cons, List.length_nil]; omega)]
      rw [w_next (by omega)]
      have e2 : acc ++ pchB x = acc ++ (putS x.f0 2).1 ++ (putS x.f1 2).1 ++ [x.f2 % 256, x.f3 % 256] ++ (putS ((runF x.f4 x.f2).1.length : Int) 2).1 ++ (runF x.f4 x.f2).1 := by simp [pchB]
      rw [← e2]
      exact ih
theorem enc_l0 {cl : Bool} {pal : List Int} {pp : List S91} (hv : ∀ x ∈ pp, x.f4.length ≤ 5000 ∧ x.f0 ≤ 9223372036854775807 ∧ x.f1 ≤ 9223372036854775807) (hp : pp.length ≤ 20) (hq : ∀ c ∈ pal, c ≤ 9223372036854775807) (hpl : pal.length ≤ 16) : ∀ (t : List Int) (i : Nat) (acc : List Int), pal.drop i = t → i ≤ pal.length → acc.length ≤ 2 + 8 * i → (∀ y ∈ acc ++ palB t ++ [(pp.length : Int) % 256] ++ pp.flatMap pchB, 0 ≤ y ∧ y ≤ 255) →
    Ev (fun k => bitmap_Encode.l0 k acc pal (pal.length : Int) (i : Int) cl pal pp) ((acc ++ palB t ++ [(pp.length : Int) % 256] ++ pp.flatMap pchB) ++ (putS (sumS (acc ++ palB t ++ [(pp.length : Int) % 256] ++ pp.flatMap pchB)) 4).1, 0)
  | [], i, acc, h, hi, ha, hb => by
    have hi2 : i = pal.length := by have h2 := congrArg List.length h; simp at h2; omega
    simp only [palB, List.flatMap_nil, List.append_nil] at hb ⊢
    have ih := enc_l1 hv hp pp 0 (acc ++ [(pp.length : Int) % 256]) rfl (by omega) (by simp only [List.length_append, List.length_cons, List.length_nil]; omega) hb
    refine Ev.step (fun k => ?_) ih
    simp only [bitmap_Encode.l0]
    rw [if_neg (by omega), if_pos (by omega)]
    rfl
  | c :: t, i, acc, h, hi, ha, hb => by
    have hc : c ∈ pal := List.mem_of_mem_drop (by rw [h]; simp)
    obtain ⟨hi1, hd, _⟩ := drop_at h
    have l0 := putS_length (v := c) (n := 3)
    have e : acc ++ palB (c :: t) = (acc ++ (putS c 3).1) ++ palB t := by simp [palB]
    rw [e] at hb ⊢
    have ih := enc_l0 (cl := cl) hv hp hq hpl t (i + 1) (acc ++ (putS c 3).1) hd (by omega) (by rw [List.length_append]; omega) hb
    refine Ev.step (f := fun k => (bitmap_number.f k acc c 3).bind fun t242 => bitmap_Encode.l0 k t242 pal (pal.length : Int) (wrap64 ((i : Int) + 1)) cl pal pp) (fun k => ?_) (Ev.bind (num_ev (hq c hc) (by omega)) ?_)
    · simp only [bitmap_Encode.l0]
      rw [if_pos (by omega), if_pos (by omega), if_pos (by omega), rd_drop h]
    · rw [w_next (by omega)]
      exact ih
theorem bigS_in : ∀ (n : Nat) (v : Int), ∀ y ∈ bigS v n, 0 ≤ y ∧ y ≤ 255
  | 0, v, y, h => by simp [bigS] at h
  | n + 1, v, y, h => by
    simp only [bigS, List.mem_append, List.mem_singleton] at h
    rcases h with h | rfl
    · exact bigS_in n _ y h
    · omega
theorem putS_in (v n : Int) : ∀ y ∈ (putS v n).1, 0 ≤ y ∧ y ≤ 255 := by
  unfold putS
  split
  · simp
  · exact bigS_in _ _
theorem code_in {c : Int} {n m : Nat} (hc : 0 ≤ c ∧ c ≤ 15) (hn : n ≤ 64) : ∀ y ∈ code c n m, 0 ≤ y ∧ y ≤ 255 := by
  unfold code
  intro y hy
  split at hy
  · simp at hy; omega
  · split at hy
    · simp at hy; omega
    · simp at hy
      rcases hy with rfl | rfl <;> omega
theorem rowF_in : ∀ (n : Nat) (r : List Int), r.length = n → n ≤ 64 → (∀ x ∈ r, 0 ≤ x ∧ x ≤ 15) → ∀ y ∈ rowF r, 0 ≤ y ∧ y ≤ 255 := by
  intro n
  induction n using Nat.strongRecOn with
  | ind n ih =>
  intro r hn hm hr y hy
  match r, hn, hr, hy with
  | [], _, _, hy => simp [rowF] at hy
  | c :: t, hn, hr, hy =>
    simp only [List.length_cons] at hn
    have h1 := heads_le c t
    rw [rowF, List.mem_append] at hy
    rcases hy with hy | hy
    · exact code_in (hr c (by simp)) (by omega) y hy
    · exact ih (t.drop (heads c t)).length (by simp; omega) (t.drop (heads c t)) rfl (by simp; omega) (fun x hx => hr x (by simp [List.mem_of_mem_drop hx])) y hy
theorem rows_in (w : Nat) (hw : w ≤ 64) : ∀ (h : Nat) (l : List Int), (∀ x ∈ l, 0 ≤ x ∧ x ≤ 15) → ∀ y ∈ rows w h l, 0 ≤ y ∧ y ≤ 255
  | 0, _, _, y, hy => by simp [rows] at hy
  | h + 1, l, hl, y, hy => by
    rw [rows, List.mem_append] at hy
    rcases hy with hy | hy
    · exact rowF_in (l.take w).length (l.take w) rfl (by simp; omega) (fun x hx => hl x (List.mem_of_mem_take hx)) y hy
    · exact rows_in w hw h (l.drop w) (fun x hx => hl x (List.mem_of_mem_drop hx)) y hy
theorem runF_in (l : List Int) (w : Int) : ∀ y ∈ (runF l w).1, 0 ≤ y ∧ y ≤ 255 := by
  unfold runF
  split
  · rename_i h
    split
    · exact rows_in _ (by omega) _ _ (bad_not h.2)
    · simp
  · simp
theorem headB_in (cl : Bool) (pal : List Int) (pp : List S91) : ∀ y ∈ headB cl pal pp, 0 ≤ y ∧ y ≤ 255 := by
  intro y hy
  simp only [headB, palB, List.mem_append, List.mem_cons, List.mem_flatMap, List.not_mem_nil, or_false] at hy
  rcases hy with (((rfl | rfl) | ⟨c, _, hc⟩) | rfl) | ⟨x, _, hx⟩
  · split <;> omega
  · omega
  · exact putS_in _ _ y hc
  · omega
  · simp only [pchB, List.mem_append, List.mem_cons, List.not_mem_nil, or_false] at hx
    rcases hx with ((((hx | hx) | (rfl | rfl)) | hx) | hx)
    · exact putS_in _ _ y hx
    · exact putS_in _ _ y hx
    · omega
    · omega
    · exact putS_in _ _ y hx
    · exact runF_in _ _ y hx
/-- The program's Encode. -/
theorem enc_ev {cl : Bool} {pal : List Int} {pp : List S91} (hv : ∀ x ∈ pp, x.f4.length ≤ 5000 ∧ x.f0 ≤ 9223372036854775807 ∧ x.f1 ≤ 9223372036854775807) (hp : pp.length ≤ 20) (hq : ∀ c ∈ pal, c ≤ 9223372036854775807) (hpl : pal.length ≤ 9223372036854775807) : Ev (fun k => bitmap_Encode.f k cl pal pp) (encF cl pal pp) := by
  unfold bitmap_Encode.f encF
  refine Ev.bind (ev_check (pal := pal) (pp := pp) hpl (by omega) (fun x hx => by have := (hv x hx).1; omega) cl) ?_
  by_cases hc : checkF pal pp = 0
  · have h16 : pal.length ≤ 16 := by
      unfold checkF at hc
      split at hc
      · cases hc
      · omega
    simp only [if_pos hc, Option.bind_some]
    have key := enc_l0 (cl := cl) hv hp hq h16 pal 0 [if cl = true then 1 else 0, (pal.length : Int) % 256] rfl (by omega) (by simp) (headB_in cl pal pp)
    cases cl with
    | true =>
      simp only [if_true, if_pos (show (0 : Int) < (([0, (pal.length : Int) % 256] : List Int).length : Int) by simp)]
      exact Ev.step (fun k => by simp only [bitmap_Encode.j0]; rfl) key
    | false =>
      simp only [Bool.false_eq_true, if_false]
      exact Ev.step (fun k => by simp only [bitmap_Encode.j0]; rfl) key
  · simp only [if_neg hc]
    exact Ev.now _
end Go.Proofs.Ytaebgjdaoloceaa.PureB
