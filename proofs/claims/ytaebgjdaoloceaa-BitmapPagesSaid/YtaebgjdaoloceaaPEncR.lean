/- A lemma file: the bytes of a page, of the reference. No condition. -/
import Derived.Test.YtaebgjdaoloceaaPEnc
import Derived.Test.YtaebgjdaoloceaaPNumR
import Derived.Test.YtaebgjdaoloceaaPRunR
import Derived.Test.YtaebgjdaoloceaaPChkR
import Derived.Test.YtaebgjdaoloceaaPDecP
import Derived.Test.YtaebgjdaoloceaaQBmpPx6
namespace Go.Proofs.Ytaebgjdaoloceaa.PureB
open Go.RowKit Go.Proofs.Ytaebgjdaoloceaa.QBmpP Go.Proofs.YtaebgjdaoloceaaW.PrintWords Go.Proofs.YtaebgjdaoloceaaW.PrintMore Go.Proofs.YtaebgjdaoloceaaV Go.Proofs.Ytaebgjdaoloceaa.Pure Go.Proofs.Ytaebgjdaoloceaa.PureD
theorem put_big {v n : Int} (h1 : 1 ≤ n) (h2 : n ≤ 8) (h3 : 0 ≤ v) (h4 : v < 2 ^ (8 * n.toNat)) : (putS v n).1 = bigS v n.toNat := by
  unfold putS
  rw [if_neg (by
    rintro (h | h | h | ⟨_, h⟩)
    · omega
    · omega
    · omega
    · exact Int.not_le.mpr h4 h)]
theorem put2 {v : Int} (h0 : 0 ≤ v) (h1 : v ≤ 65535) : (putS v 2).1 = bigS v 2 := put_big (by decide) (by decide) h0 (by rw [show (2 : Int) ^ (8 * (2 : Int).toNat) = 65536 from by decide]; omega)
theorem put3 {v : Int} (h0 : 0 ≤ v) (h1 : v ≤ 16777215) : (putS v 3).1 = bigS v 3 := put_big (by decide) (by decide) h0 (by rw [show (2 : Int) ^ (8 * (3 : Int).toNat) = 16777216 from by decide]; omega)
theorem put4 {v : Int} (h0 : 0 ≤ v) (h1 : v ≤ 4294967295) : (putS v 4).1 = bigS v 4 := put_big (by decide) (by decide) h0 (by rw [show (2 : Int) ^ (8 * (4 : Int).toNat) = 4294967296 from by decide]; omega)
theorem rnum_ev {v : Int} {n : Nat} (h0 : 0 ≤ v) (h1 : v ≤ 9223372036854775807) (hn : n ≤ 8) : Ev (fun k => dioramaref19_number.f k v (n : Int)) (bigS v n) := by
  unfold dioramaref19_number.f
  exact Ev.bind (rbig_ev h0 h1 (by omega) (by omega)) (Ev.now _)
theorem checkL_mem : ∀ {l : List S91}, checkL l = 0 → ∀ x ∈ l, patchE x = 0
  | [], _, x, h => by cases h
  | y :: t, hc, x, h => by
    rw [checkL] at hc
    by_cases hy : patchE y = 0
    · rw [if_pos hy] at hc
      rcases List.mem_cons.mp h with rfl | h
      · exact hy
      · exact checkL_mem hc x h
    · rw [if_neg hy] at hc
      exact absurd hc hy
theorem patchE_ok {x : S91} (h : patchE x = 0) : placeB x = true ∧ (∀ c ∈ x.f4, 0 ≤ c ∧ c ≤ 15) ∧ (x.f4.length : Int) = x.f2 * x.f3 := by
  unfold patchE at h
  split at h
  · rename_i hp
    split at h
    · rename_i ha
      split at h
      · rename_i hl
        exact ⟨hp, fun c hc => inB_iff.mp (List.all_eq_true.mp ha c hc), hl⟩
      · cases h
    · cases h
  · cases h
theorem patchE_len {x : S91} (h : patchE x = 0) : x.f4.length ≤ 4096 := by
  obtain ⟨h1, _, h3⟩ := patchE_ok h
  have := (wh_patch h1).2.2
  omega
theorem checkF_ok {pal : List Int} {pp : List S91} (h : checkF pal pp = 0) : (pal.length ≤ 16 ∧ pp.length ≤ 8) ∧ (∀ c ∈ pal, 0 ≤ c ∧ c ≤ 16777215) ∧ ∀ x ∈ pp, patchE x = 0 := by
  unfold checkF at h
  split at h
  · cases h
  · rename_i hn
    split at h
    · rename_i ha
      exact ⟨by omega, fun c hc => inB_iff.mp (List.all_eq_true.mp ha c hc), checkL_mem h⟩
    · cases h
theorem renc_l1 {cl : Bool} {pal : List Int} {pp : List S91} (hv : ∀ x ∈ pp, patchE x = 0) (hp : pp.length ≤ 8) : ∀ (t : List S91) (i : Nat) (acc : List Int), pp.drop i = t → i ≤ pp.length → acc.length ≤ 200 + 20000 * i → (∀ y ∈ acc ++ t.flatMap pchB, 0 ≤ y ∧ y ≤ 255) →
    Ev (fun k => dioramaref19_Encode.l1 k acc (i : Int) cl pal pp) ((acc ++ t.flatMap pchB) ++ (putS (sumS (acc ++ t.flatMap pchB)) 4).1, 0)
  | [], i, acc, h, hi, ha, hb => by
    have hi2 : i = pp.length := by have h2 := congrArg List.length h; simp at h2; omega
    simp only [List.flatMap_nil, List.append_nil] at hb ⊢
    have hs := sumS_in hb
    refine Ev.step (f := fun k => (dioramaref01_Sum.f k acc).bind fun t346 => ((dioramaref19_number.f k (wrap64 (t346)) 4).bind fun t347 => (if acc.length + t347.length < 140737488355328 then (some ((acc ++ t347), 0)) else (none)))) (fun k => ?_) (Ev.bind (rsum_ev (by omega) hb) ?_)
    · simp only [dioramaref19_Encode.l1]
      rw [if_neg (by omega)]
    · rw [w64 (by omega) (by omega), put4 hs.1 hs.2]
      refine Ev.bind (rnum_ev (n := 4) hs.1 (by omega) (by omega)) ?_
      simp only [if_pos (show acc.length + (bigS (sumS acc) 4).length < 140737488355328 by rw [bigS_length]; omega)]
      exact Ev.now _
  | x :: t, i, acc, h, hi, ha, hb => by
    have hx := hv x (List.mem_of_mem_drop (by rw [h]; simp))
    obtain ⟨o1, o2, o3⟩ := patchE_ok hx
    have hpl := place_ok o1
    have h5 := patchE_len hx
    obtain ⟨hi1, hd, _⟩ := drop_at h
    have hrl := runF_len (l := x.f4) (w := x.f2) (by omega)
    have e : acc ++ (x :: t).flatMap pchB = (acc ++ pchB x) ++ t.flatMap pchB := by simp
    have epb : pchB x = bigS x.f0 2 ++ bigS x.f1 2 ++ [x.f2 % 256, x.f3 % 256] ++ bigS ((runF x.f4 x.f2).1.length : Int) 2 ++ (runF x.f4 x.f2).1 := by
      unfold pchB
      rw [put2 (by omega) (by omega), put2 (by omega) (by omega), put2 (by omega) (by omega)]
    have ih := renc_l1 (cl := cl) (pal := pal) hv hp t (i + 1) (acc ++ pchB x) hd (by omega) (by rw [epb]; simp only [List.length_append, List.length_cons, List.length_nil, bigS_length]; omega) (by rw [← e]; exact hb)
    rw [e]
    generalize hR : (runF x.f4 x.f2).1 = R at epb hrl
    refine Ev.step (f := fun k => (dioramaref19_Runs.f k x.f4 x.f2).bind fun bt => (dioramaref19_number.f k x.f0 2).bind fun t1 => if acc.length + t1.length < 140737488355328 then (some (acc ++ t1)).bind fun y1 => (dioramaref19_number.f k x.f1 2).bind fun t2 => if y1.length + t2.length < 140737488355328 then (some (y1 ++ t2)).bind fun y2 => (some ([x.f2 % 256, x.f3 % 256] : List Int)).bind fun y3 => if y2.length + y3.length < 140737488355328 then (some (y2 ++ y3)).bind fun y4 => (dioramaref19_number.f k (bt.1.length : Int) 2).bind fun t3 => if y4.length + t3.length < 140737488355328 then (some (y4 ++ t3)).bind fun y5 => if y5.length + bt.1.length < 140737488355328 then dioramaref19_Encode.l1 k (y5 ++ bt.1) (wrap64 ((i : Int) + 1)) cl pal pp else none else none else none else none else none) (fun k => ?_) ?_
    · simp only [dioramaref19_Encode.l1]
      rw [if_pos (by omega), if_pos (by omega), rd91 h]
    · refine Ev.bind (ev_rrun (by omega)) (Ev.bind (rnum_ev (n := 2) (by omega) (by omega) (by omega)) ?_)
      have c1 : acc.length + (bigS x.f0 2).length < 140737488355328 := by rw [bigS_length]; omega
      have c2 : (acc ++ bigS x.f0 2).length + (bigS x.f1 2).length < 140737488355328 := by simp only [List.length_append, bigS_length]; omega
      have c3 : (acc ++ bigS x.f0 2 ++ bigS x.f1 2).length + ([x.f2 % 256, x.f3 % 256] : List Int).length < 140737488355328 := by simp only [List.length_append, bigS_length, List.length_cons, List.length_nil]; omega
      have c4 : (acc ++ bigS x.f0 2 ++ bigS x.f1 2 ++ [x.f2 % 256, x.f3 % 256]).length + (bigS (R.length : Int) 2).length < 140737488355328 := by simp only [List.length_append, bigS_length, List.length_cons, List.length_nil]; omega
      have c5 : (acc ++ bigS x.f0 2 ++ bigS x.f1 2 ++ [x.f2 % 256, x.f3 % 256] ++ bigS (R.length : Int) 2).length + R.length < 140737488355328 := by simp only [List.length_append, bigS_length, List.length_cons, List.length_nil]; omega
      simp only [Option.bind_some, hR, if_pos c1]
      refine Ev.bind (rnum_ev (n := 2) (by omega) (by omega) (by omega)) ?_
      simp only [if_pos c2, if_pos c3]
      refine Ev.bind (rnum_ev (n := 2) (by omega) (by omega) (by omega)) ?_
      simp only [if_pos c4, if_pos c5]
      rw [w_next (by omega)]
      rw [epb] at ih ⊢
      simpa only [List.append_assoc] using ih
theorem renc_l0 {cl : Bool} {pal : List Int} {pp : List S91} (hv : ∀ x ∈ pp, patchE x = 0) (hp : pp.length ≤ 8) (hq : ∀ c ∈ pal, 0 ≤ c ∧ c ≤ 16777215) (hpl : pal.length ≤ 16) : ∀ (t : List Int) (i : Nat) (acc : List Int), pal.drop i = t → i ≤ pal.length → acc.length ≤ 2 + 8 * i → (∀ y ∈ acc ++ palB t ++ [(pp.length : Int) % 256] ++ pp.flatMap pchB, 0 ≤ y ∧ y ≤ 255) →
    Ev (fun k => dioramaref19_Encode.l0 k acc (i : Int) cl pal pp) ((acc ++ palB t ++ [(pp.length : Int) % 256] ++ pp.flatMap pchB) ++ (putS (sumS (acc ++ palB t ++ [(pp.length : Int) % 256] ++ pp.flatMap pchB)) 4).1, 0)
  | [], i, acc, h, hi, ha, hb => by
    have hi2 : i = pal.length := by have h2 := congrArg List.length h; simp at h2; omega
    simp only [palB, List.flatMap_nil, List.append_nil] at hb ⊢
    have ih := renc_l1 (cl := cl) (pal := pal) hv hp pp 0 (acc ++ [(pp.length : Int) % 256]) rfl (by omega) (by simp only [List.length_append, List.length_cons, List.length_nil]; omega) hb
    refine Ev.step (fun k => ?_) ih
    simp only [dioramaref19_Encode.l0]
    rw [if_neg (by omega), if_pos (by omega)]
    rfl
  | c :: t, i, acc, h, hi, ha, hb => by
    have hc := hq c (List.mem_of_mem_drop (by rw [h]; simp))
    obtain ⟨hi1, hd, _⟩ := drop_at h
    have e : acc ++ palB (c :: t) = (acc ++ bigS c 3) ++ palB t := by simp [palB, put3 hc.1 hc.2]
    rw [e] at hb ⊢
    have ih := renc_l0 (cl := cl) hv hp hq hpl t (i + 1) (acc ++ bigS c 3) hd (by omega) (by rw [List.length_append, bigS_length]; omega) hb
    refine Ev.step (f := fun k => (dioramaref19_number.f k c 3).bind fun t337 => (if acc.length + t337.length < 140737488355328 then (dioramaref19_Encode.l0 k (acc ++ t337) (wrap64 ((i : Int) + 1)) cl pal pp) else (none))) (fun k => ?_) (Ev.bind (rnum_ev (n := 3) hc.1 (by omega) (by omega)) ?_)
    · simp only [dioramaref19_Encode.l0]
      rw [if_pos (by omega), if_pos (by omega), rd_drop h]
    · simp only [if_pos (show acc.length + (bigS c 3).length < 140737488355328 by rw [bigS_length]; omega)]
      rw [w_next (by omega)]
      exact ih
/-- The reference's Encode. -/
theorem renc_ev {cl : Bool} {pal : List Int} {pp : List S91} (hf : fit pp) (hp : pp.length ≤ 20) (hpl : pal.length ≤ 9223372036854775807) : Ev (fun k => dioramaref19_Encode.f k cl pal pp) (encF cl pal pp) := by
  unfold dioramaref19_Encode.f encF
  refine Ev.bind (ev_rcheck (pal := pal) (pp := pp) hpl (by omega) hf cl) ?_
  by_cases hc : checkF pal pp = 0
  · obtain ⟨⟨h16, h8⟩, hq, hv⟩ := checkF_ok hc
    simp only [if_pos hc]
    have key := renc_l0 (cl := cl) hv h8 hq h16 pal 0 [if cl = true then 1 else 0, (pal.length : Int) % 256] rfl (by omega) (by simp) (headB_in cl pal pp)
    cases cl with
    | true =>
      simp only [if_true]
      exact Ev.step (fun k => by simp only [dioramaref19_Encode.j0]; rfl) key
    | false =>
      simp only [Bool.false_eq_true, if_false]
      exact Ev.step (fun k => by simp only [dioramaref19_Encode.j0]; rfl) key
  · simp only [if_neg hc]
    exact Ev.now _
end Go.Proofs.Ytaebgjdaoloceaa.PureB
