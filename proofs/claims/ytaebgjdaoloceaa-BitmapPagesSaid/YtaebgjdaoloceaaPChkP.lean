/- A lemma file: what is valid, and what a page's error is, the program's. No condition. -/
import Derived.Test.YtaebgjdaoloceaaPEvo
import Derived.Test.YtaebgjdaoloceaaQBmpPx4
namespace Go.Proofs.Ytaebgjdaoloceaa.PureD
open Go.RowKit Go.Proofs.Ytaebgjdaoloceaa.QBmpP Go.Proofs.YtaebgjdaoloceaaW.PrintWords Go.Proofs.YtaebgjdaoloceaaW.PrintMore Go.Proofs.YtaebgjdaoloceaaV
theorem within_d (v a b : Int) : bitmap_within.f v a b = some (inB v a b) := by
  unfold bitmap_within.f inB
  by_cases h : v ≥ a
  · rw [if_pos h, decide_eq_true h]; simp
  · rw [if_neg h, decide_eq_false h]; simp
theorem ev_idx88 {l : List Int} (hl : l.length ≤ 9223372036854775807) : Ev (fun k => slices_IndexFunc_int_int__88.f k l) (idxF (fun c => !inB c 0 16777215) 0 l) := by
  unfold slices_IndexFunc_int_int__88.f
  refine Ev.list (l := l) (f := fun k i => slices_IndexFunc_int_int__88.l0 k l (l.length : Int) (i : Int)) (idxF (fun c => !inB c 0 16777215)) ?_ ?_
  · exact Ev.step (f := fun _ => some (-1)) (fun k => by rw [slices_IndexFunc_int_int__88.l0, if_neg (by omega)]) (Ev.now _)
  · intro i x t h ih
    have hi := (drop_at h).1
    have ex := rd_drop h
    have ec : bitmap_colours_1.f x = some (!inB x 0 16777215) := by unfold bitmap_colours_1.f; rw [within_d]; rfl
    rw [idxF]
    cases hb : inB x 0 16777215 with
    | true =>
      rw [if_neg (by simp)]
      refine Ev.step (fun k => ?_) ih
      rw [slices_IndexFunc_int_int__88.l0, if_pos (by omega), if_pos (by omega), if_pos (by omega), ex, ec, hb, w_next (by omega)]
      rfl
    | false =>
      rw [if_pos (by simp)]
      refine Ev.step (f := fun _ => some (i : Int)) (fun k => ?_) (Ev.now _)
      rw [slices_IndexFunc_int_int__88.l0, if_pos (by omega), if_pos (by omega), if_pos (by omega), ex, ec, hb]
      rfl
theorem ev_cont88 {l : List Int} (hl : l.length ≤ 9223372036854775807) : Ev (fun k => slices_ContainsFunc_int_int__88.f k l) (!(l.all (inB · 0 16777215))) := by
  unfold slices_ContainsFunc_int_int__88.f
  refine Ev.bind (ev_idx88 hl) ?_
  rw [idxF_any, any_not_all]
  exact Ev.now _
theorem ev_idx89 {l : List Int} (hl : l.length ≤ 9223372036854775807) : Ev (fun k => slices_IndexFunc_int_int__89.f k l) (idxF (fun c => !inB c 0 15) 0 l) := by
  unfold slices_IndexFunc_int_int__89.f
  refine Ev.list (l := l) (f := fun k i => slices_IndexFunc_int_int__89.l0 k l (l.length : Int) (i : Int)) (idxF (fun c => !inB c 0 15)) ?_ ?_
  · exact Ev.step (f := fun _ => some (-1)) (fun k => by rw [slices_IndexFunc_int_int__89.l0, if_neg (by omega)]) (Ev.now _)
  · intro i x t h ih
    have hi := (drop_at h).1
    have ex := rd_drop h
    have ec : bitmap_checkPatch_1.f x = some (!inB x 0 15) := by unfold bitmap_checkPatch_1.f; rw [within_d]; rfl
    rw [idxF]
    cases hb : inB x 0 15 with
    | true =>
      rw [if_neg (by simp)]
      refine Ev.step (fun k => ?_) ih
      rw [slices_IndexFunc_int_int__89.l0, if_pos (by omega), if_pos (by omega), if_pos (by omega), ex, ec, hb, w_next (by omega)]
      rfl
    | false =>
      rw [if_pos (by simp)]
      refine Ev.step (f := fun _ => some (i : Int)) (fun k => ?_) (Ev.now _)
      rw [slices_IndexFunc_int_int__89.l0, if_pos (by omega), if_pos (by omega), if_pos (by omega), ex, ec, hb]
      rfl
theorem ev_cont89 {l : List Int} (hl : l.length ≤ 9223372036854775807) : Ev (fun k => slices_ContainsFunc_int_int__89.f k l) (!(l.all (inB · 0 15))) := by
  unfold slices_ContainsFunc_int_int__89.f
  refine Ev.bind (ev_idx89 hl) ?_
  rw [idxF_any, any_not_all]
  exact Ev.now _
/-! What is valid. -/
section
variable {w h : Int} {pal px : List Int}
theorem ev_colours (hl : pal.length ≤ 9223372036854775807) : Ev (fun k => bitmap_colours.f k pal) (pal.all (inB · 0 16777215)) := by
  unfold bitmap_colours.f
  refine Ev.bind (ev_cont88 hl) ?_
  rw [Bool.not_not]
  exact Ev.now _
end
/-! What a page's error is. -/
def placeB (x : S91) : Bool := inB x.f0 0 999 && (inB x.f1 0 999 && (inB x.f2 1 64 && inB x.f3 1 64))
def patchE (x : S91) : Int := if placeB x = true then (if x.f4.all (inB · 0 15) = true then (if (x.f4.length : Int) = x.f2 * x.f3 then 0 else 4) else 1) else 1
def checkL : List S91 → Int
  | [] => 0
  | x :: t => if patchE x = 0 then checkL t else patchE x
def checkF (pal : List Int) (pp : List S91) : Int := if pal.length > 16 ∨ pp.length > 8 then 2 else if pal.all (inB · 0 16777215) = true then checkL pp else 1
def fit (pp : List S91) : Prop := ∀ x ∈ pp, x.f4.length ≤ 9223372036854775807
theorem place_p (x : S91) : bitmap_place.f x.f0 x.f1 x.f2 x.f3 x.f4 = some (placeB x) := by
  unfold bitmap_place.f placeB
  simp only [within_d, Option.bind_some]
  cases inB x.f0 0 999 <;> cases inB x.f1 0 999 <;> cases inB x.f2 1 64 <;> rfl
theorem place_ok {x : S91} (h : placeB x = true) : (0 ≤ x.f0 ∧ x.f0 ≤ 999) ∧ (0 ≤ x.f1 ∧ x.f1 ≤ 999) ∧ (1 ≤ x.f2 ∧ x.f2 ≤ 64) ∧ (1 ≤ x.f3 ∧ x.f3 ≤ 64) := by
  unfold placeB at h
  simp only [Bool.and_eq_true, inB_iff] at h
  exact h
theorem wh_patch {x : S91} (h : placeB x = true) : wrap64 (x.f2 * x.f3) = x.f2 * x.f3 ∧ 0 ≤ x.f2 * x.f3 ∧ x.f2 * x.f3 ≤ 4096 := by
  have := place_ok h
  have a : x.f2 * x.f3 ≤ 64 * 64 := Int.mul_le_mul this.2.2.1.2 this.2.2.2.2 (by omega) (by omega)
  have b : 0 ≤ x.f2 * x.f3 := Int.mul_nonneg (by omega) (by omega)
  exact ⟨w64 (by omega) (by omega), b, by omega⟩
theorem rd91 {l t : List S91} {i : Nat} {x : S91} (h : l.drop i = x :: t) : rd_T91 l (i : Int) = x := by
  show l.getD (i : Int).toNat z91 = x
  rw [Int.toNat_natCast]; exact (drop_at h).2.2 z91
theorem ev_patch {x : S91} (hx : x.f4.length ≤ 9223372036854775807) : Ev (fun k => bitmap_checkPatch.f k x.f0 x.f1 x.f2 x.f3 x.f4) (patchE x) := by
  unfold bitmap_checkPatch.f patchE
  simp only [place_p, Option.bind_some]
  cases hp : placeB x with
  | false =>
    refine Ev.step (f := fun _ => some 1) (fun k => ?_) (Ev.now _)
    rw [if_neg (by simp), bitmap_checkPatch.j0, if_pos rfl]
  | true =>
    simp only [if_true]
    refine Ev.bind (ev_cont89 hx) ?_
    cases hb : x.f4.all (inB · 0 15) with
    | false =>
      refine Ev.step (f := fun _ => some 1) (fun k => ?_) (Ev.now _)
      rw [bitmap_checkPatch.j0, if_pos (by simp)]
    | true =>
      refine Ev.step (f := fun _ => some (if (x.f4.length : Int) = x.f2 * x.f3 then 0 else 4)) (fun k => ?_) (Ev.now _)
      rw [bitmap_checkPatch.j0, if_neg (by simp), (wh_patch hp).1]
      split <;> rfl
section
variable {pal : List Int} {pp : List S91}
theorem fit_at (hf : fit pp) {i : Nat} {x : S91} {t : List S91} (h : pp.drop i = x :: t) : x.f4.length ≤ 9223372036854775807 :=
  hf x (List.mem_of_mem_drop (by rw [h]; exact List.mem_cons_self))
theorem ev_check (hp : pal.length ≤ 9223372036854775807) (hl : pp.length ≤ 9223372036854775807) (hf : fit pp) (cl : Bool) : Ev (fun k => bitmap_Check.f k cl pal pp) (checkF pal pp) := by
  have hgo : Ev (fun k => bitmap_Check.j0 k false cl pal pp) (if pal.all (inB · 0 16777215) = true then checkL pp else 1) := by
    refine Ev.step (f := fun k => (bitmap_colours.f k pal).bind fun t308 => (if t308 = true then (bitmap_Check.l0 k pp (pp.length : Int) 0) else (some 1))) (fun k => by rw [bitmap_Check.j0, if_neg (by simp)]) ?_
    refine Ev.bind (ev_colours hp) ?_
    cases pal.all (inB · 0 16777215) with
    | false => exact Ev.now _
    | true =>
      simp only [if_true]
      refine Ev.list (l := pp) (f := fun k i => bitmap_Check.l0 k pp (pp.length : Int) (i : Int)) (fun _ t => checkL t) ?_ ?_
      · exact Ev.step (f := fun _ => some 0) (fun k => by rw [bitmap_Check.l0, if_neg (by omega)]) (Ev.now _)
      · intro i x t h ih
        have hi := (drop_at h).1
        refine Ev.step (f := fun k => (bitmap_checkPatch.f k x.f0 x.f1 x.f2 x.f3 x.f4).bind fun t311 => (if t311 = 0 then (bitmap_Check.l0 k pp (pp.length : Int) ((i + 1 : Nat) : Int)) else (some t311))) (fun k => ?_) ?_
        · rw [bitmap_Check.l0, if_pos (by omega), if_pos (by omega), if_pos (by omega), rd91 h, w_next (by omega)]
        · refine Ev.bind (ev_patch (fit_at hf h)) ?_
          rw [checkL]
          by_cases he : patchE x = 0
          · simp only [if_pos he]; exact ih
          · simp only [if_neg he]; exact Ev.now _
  have hno : Ev (fun k => bitmap_Check.j0 k true cl pal pp) 2 := Ev.step (f := fun _ => some 2) (fun k => by rw [bitmap_Check.j0, if_pos rfl]) (Ev.now _)
  unfold bitmap_Check.f checkF
  by_cases h1 : pal.length > 16
  · simp only [if_pos (show (pal.length : Int) > 16 by omega), if_pos (show pal.length > 16 ∨ pp.length > 8 from .inl h1)]; exact hno
  · simp only [if_neg (show ¬ (pal.length : Int) > 16 by omega)]
    by_cases h2 : pp.length > 8
    · simp only [decide_eq_true (show (pp.length : Int) > 8 by omega), if_pos (show pal.length > 16 ∨ pp.length > 8 from .inr h2)]; exact hno
    · simp only [decide_eq_false (show ¬ (pp.length : Int) > 8 by omega), if_neg (show ¬ (pal.length > 16 ∨ pp.length > 8) by omega)]; exact hgo
end
end Go.Proofs.Ytaebgjdaoloceaa.PureD
