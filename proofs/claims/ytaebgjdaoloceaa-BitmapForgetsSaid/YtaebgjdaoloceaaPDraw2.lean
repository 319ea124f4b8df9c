/- A lemma file: the patches of a page on a canvas, the program's. No condition. -/
import Derived.Test.YtaebgjdaoloceaaPDraw
namespace Go.Proofs.Ytaebgjdaoloceaa.PureD
open Go.RowKit Go.Proofs.Ytaebgjdaoloceaa.QBmpF Go.Proofs.YtaebgjdaoloceaaW.PrintWords Go.Proofs.YtaebgjdaoloceaaW.PrintMore Go.Proofs.YtaebgjdaoloceaaV
def rowN (x : S91) (w : Int) (j : Nat) (px : List Int) : Nat → List Int
  | 0 => px
  | i + 1 => (rowN x w j px i).set ((x.f1 + (j : Int)) * w + x.f0 + (i : Int)).toNat (rd x.f4 ((j : Int) * x.f2 + (i : Int)))
def rowsN (x : S91) (w : Int) (m : Nat) (px : List Int) : Nat → List Int
  | 0 => px
  | j + 1 => rowN x w j (rowsN x w m px j) m
def m1 (x : S91) (w : Int) : Nat := min x.f2.toNat (w - x.f0).toNat
def patchN (w h : Int) (px : List Int) (x : S91) : List Int := rowsN x w (m1 x w) px (min x.f3.toNat (h - x.f1).toNat)
theorem rowN_len (x : S91) (w : Int) (j : Nat) (px : List Int) (i : Nat) : (rowN x w j px i).length = px.length := by
  induction i with
  | zero => rfl
  | succ i ih => rw [rowN, List.length_set, ih]
theorem rowsN_len (x : S91) (w : Int) (m : Nat) (px : List Int) (j : Nat) : (rowsN x w m px j).length = px.length := by
  induction j with
  | zero => rfl
  | succ j ih => rw [rowsN, rowN_len, ih]
theorem patchN_len (w h : Int) (px : List Int) (x : S91) : (patchN w h px x).length = px.length := rowsN_len _ _ _ _ _
theorem patches_len (w h : Int) (pp : List S91) : ∀ px : List Int, (pp.foldl (patchN w h) px).length = px.length := by
  induction pp with
  | nil => intro px; rfl
  | cons x t ih => intro px; rw [List.foldl_cons, ih, patchN_len]
structure Good (x : S91) : Prop where
  a : 0 ≤ x.f0 ∧ x.f0 ≤ 999
  b : 0 ≤ x.f1 ∧ x.f1 ≤ 999
  c : 1 ≤ x.f2 ∧ x.f2 ≤ 64
  d : 1 ≤ x.f3 ∧ x.f3 ≤ 64
  e : (x.f4.length : Int) = x.f2 * x.f3
theorem good_of : ∀ {pp : List S91}, checkL pp = 0 → ∀ x ∈ pp, Good x
  | [], _ => by simp
  | x :: t, h => by
    rw [checkL] at h
    by_cases h0 : patchE x = 0
    · rw [if_pos h0] at h
      intro y hy
      rcases List.mem_cons.mp hy with rfl | hy
      · unfold patchE at h0
        by_cases hp : placeB y = true
        · rw [if_pos hp] at h0
          have := place_ok hp
          by_cases hb : y.f4.all (inB · 0 15) = true
          · rw [if_pos hb] at h0
            by_cases hw : (y.f4.length : Int) = y.f2 * y.f3
            · exact ⟨this.1, this.2.1, this.2.2.1, this.2.2.2, hw⟩
            · rw [if_neg hw] at h0; omega
          · rw [if_neg hb] at h0; omega
        · rw [if_neg hp] at h0; omega
      · exact good_of h y hy
    · rw [if_neg h0] at h; exact absurd h h0
theorem check_good {pal : List Int} {pp : List S91} (h : checkF pal pp = 0) : pp.length ≤ 8 ∧ ∀ x ∈ pp, Good x := by
  unfold checkF at h
  split at h
  · omega
  · split at h
    · exact ⟨by omega, good_of h⟩
    · omega
/-! Numbers of places. -/
section
variable {w h a b : Int}
theorem at_lt {p q : Int} (hw : 1 ≤ w ∧ w ≤ 200) (hh : 1 ≤ h ∧ h ≤ 200) (hp : 0 ≤ p ∧ p < h) (hq : 0 ≤ q ∧ q < w) : 0 ≤ p * w ∧ p * w ≤ 40000 ∧ p * w + q < w * h ∧ 0 ≤ p * w + q := by
  have e1 : p * w ≤ (h - 1) * w := Int.mul_le_mul_of_nonneg_right (by omega) (by omega)
  have e2 : (h - 1) * w = w * h - w := by rw [Int.sub_mul, Int.one_mul, Int.mul_comm]
  have e3 : 0 ≤ p * w := Int.mul_nonneg (by omega) (by omega)
  have e4 : w * h ≤ 200 * 200 := Int.mul_le_mul hw.2 hh.2 (by omega) (by omega)
  omega
theorem px_lt {x : S91} (g : Good x) {j i : Nat} (hj : (j : Int) < x.f3) (hi : (i : Int) < x.f2) : 0 ≤ (j : Int) * x.f2 ∧ (j : Int) * x.f2 ≤ 4096 ∧ (j : Int) * x.f2 + (i : Int) < (x.f4.length : Int) := by
  have e1 : (j : Int) * x.f2 ≤ (x.f3 - 1) * x.f2 := Int.mul_le_mul_of_nonneg_right (by omega) (by have := g.c; omega)
  have e2 : (x.f3 - 1) * x.f2 = x.f2 * x.f3 - x.f2 := by rw [Int.sub_mul, Int.one_mul, Int.mul_comm]
  have e3 : 0 ≤ (j : Int) * x.f2 := Int.mul_nonneg (by omega) (by have := g.c; omega)
  have e4 : x.f2 * x.f3 ≤ 64 * 64 := Int.mul_le_mul g.c.2 g.d.2 (by have := g.d; omega) (by omega)
  have := g.e
  have := g.c
  omega
end
section
variable {w h : Int} {pal px : List Int} {pp : List S91} {r : Int × Int × List Int × List Int × Int}
theorem draw_l2 {x : S91} (g : Good x) (hw : 1 ≤ w ∧ w ≤ 200) (hh : 1 ≤ h ∧ h ≤ 200) {j : Nat} (hj : (j : Int) < x.f3 ∧ (j : Int) < h - x.f1) (hl : (px.length : Int) = w * h) {n y M : Int}
    (hk : Ev (fun k => bitmap_Draw.l1 k pp n y M ((j + 1 : Nat) : Int) w h pal (rowN x w j px (m1 x w)) x.f0 x.f1 x.f2 x.f3 x.f4) r) :
    Ev (fun k => bitmap_Draw.l2 k (j : Int) pp n y M (j : Int) (mn x.f2 (wrap64 (w - x.f0))) 0 w h pal px x.f0 x.f1 x.f2 x.f3 x.f4) r := by
  have ga := g.a
  have gb := g.b
  have gc := g.c
  have gd := g.d
  have eM : mn x.f2 (wrap64 (w - x.f0)) = min x.f2 (w - x.f0) := by rw [w64 (by omega) (by omega), mn_eq]
  refine Ev.all (f := fun k i => bitmap_Draw.l2 k (j : Int) pp n y M (j : Int) (mn x.f2 (wrap64 (w - x.f0))) (i : Int) w h pal (rowN x w j px i) x.f0 x.f1 x.f2 x.f3 x.f4) (m1 x w) (fun i hi ih => ?_) ?_
  · have hi2 : (i : Int) < x.f2 ∧ (i : Int) < w - x.f0 := by unfold m1 at hi; omega
    have p1 := px_lt g hj.1 hi2.1
    have p2 := at_lt hw hh (p := x.f1 + (j : Int)) (q := x.f0 + (i : Int)) (by omega) (by omega)
    obtain ⟨pw, hpw⟩ : ∃ pw, (x.f1 + (j : Int)) * w = pw := ⟨_, rfl⟩
    obtain ⟨jw, hjw⟩ : ∃ jw, (j : Int) * x.f2 = jw := ⟨_, rfl⟩
    rw [hpw] at p2
    rw [hjw] at p1
    have e1 : wrap64 ((j : Int) * x.f2) = jw := by rw [hjw]; exact w64 (by omega) (by omega)
    have e2 : wrap64 (jw + (i : Int)) = jw + (i : Int) := w64 (by omega) (by omega)
    have e3 : wrap64 (x.f1 + (j : Int)) = x.f1 + (j : Int) := w64 (by omega) (by omega)
    have e4 : wrap64 ((x.f1 + (j : Int)) * w) = pw := by rw [hpw]; exact w64 (by omega) (by omega)
    have e5 : wrap64 (pw + x.f0) = pw + x.f0 := w64 (by omega) (by omega)
    have e6 : wrap64 (pw + x.f0 + (i : Int)) = pw + x.f0 + (i : Int) := w64 (by omega) (by omega)
    rw [rowN, hpw, hjw] at ih
    refine Ev.step (fun k => ?_) ih
    rw [bitmap_Draw.l2, if_pos (by rw [eM]; omega), e1, e2, e3, e4, e5, e6, if_pos (by omega), if_pos (by omega), if_pos (by omega), if_pos (by rw [rowN_len]; omega), w_next (by omega)]
  · refine Ev.step (fun k => ?_) hk
    rw [bitmap_Draw.l2, if_neg (by rw [eM]; unfold m1; omega), w_next (by omega)]
theorem draw_l1 {x : S91} (g : Good x) (hw : 1 ≤ w ∧ w ≤ 200) (hh : 1 ≤ h ∧ h ≤ 200) (hl : (px.length : Int) = w * h) {n y : Int}
    (hk : Ev (fun k => bitmap_Draw.l0 k pp n (wrap64 (y + 1)) w h pal (patchN w h px x)) r) :
    Ev (fun k => bitmap_Draw.l1 k pp n y (mn x.f3 (wrap64 (h - x.f1))) 0 w h pal px x.f0 x.f1 x.f2 x.f3 x.f4) r := by
  have gb := g.b
  have gd := g.d
  have eM : mn x.f3 (wrap64 (h - x.f1)) = min x.f3 (h - x.f1) := by rw [w64 (by omega) (by omega), mn_eq]
  refine Ev.all (f := fun k j => bitmap_Draw.l1 k pp n y (mn x.f3 (wrap64 (h - x.f1))) (j : Int) w h pal (rowsN x w (m1 x w) px j) x.f0 x.f1 x.f2 x.f3 x.f4) (min x.f3.toNat (h - x.f1).toNat) (fun j hj ih => ?_) ?_
  · have hj2 : (j : Int) < x.f3 ∧ (j : Int) < h - x.f1 := by omega
    refine Ev.step (fun k => ?_) (draw_l2 g hw hh hj2 (px := rowsN x w (m1 x w) px j) (by rw [rowsN_len]; exact hl) ih)
    rw [bitmap_Draw.l1, if_pos (by rw [eM]; omega)]
  · refine Ev.step (fun k => ?_) hk
    rw [bitmap_Draw.l1, if_neg (by rw [eM]; omega)]
    rfl
theorem take_fold {w h : Int} {pp t : List S91} {i : Nat} {x : S91} (e : pp.drop i = x :: t) (px : List Int) : (pp.take (i + 1)).foldl (patchN w h) px = patchN w h ((pp.take i).foldl (patchN w h) px) x := by
  have hi := (drop_at e).1
  have hx : pp[i] = x := by
    have := (drop_at e).2.2 x
    rw [List.getD_eq_getElem?_getD, List.getElem?_eq_getElem hi] at this
    exact this
  rw [List.take_add_one, List.foldl_append, List.getElem?_eq_getElem hi, hx]
  rfl
theorem draw_l0 (hg : ∀ x ∈ pp, Good x) (hw : 1 ≤ w ∧ w ≤ 200) (hh : 1 ≤ h ∧ h ≤ 200) (hl : (px.length : Int) = w * h) (hn : pp.length ≤ 8) :
    Ev (fun k => bitmap_Draw.l0 k pp (pp.length : Int) 0 w h pal px) (w, h, pal, pp.foldl (patchN w h) px, 0) := by
  refine Ev.list (l := pp) (f := fun k i => bitmap_Draw.l0 k pp (pp.length : Int) (i : Int) w h pal ((pp.take i).foldl (patchN w h) px)) (fun _ _ => (w, h, pal, pp.foldl (patchN w h) px, 0)) ?_ ?_
  · refine Ev.step (f := fun _ => some (w, h, pal, pp.foldl (patchN w h) px, 0)) (fun k => ?_) (Ev.now _)
    rw [bitmap_Draw.l0, if_neg (by omega), List.take_length]
  · intro i x t e ih
    have hi := (drop_at e).1
    rw [take_fold e] at ih
    have g := hg x (List.mem_of_mem_drop (by rw [e]; exact List.mem_cons_self))
    rw [← w_next (by omega)] at ih
    refine Ev.step (fun k => ?_) (draw_l1 g hw hh (px := (pp.take i).foldl (patchN w h) px) (by rw [patches_len]; exact hl) ih)
    rw [bitmap_Draw.l0, if_pos (by omega), if_pos (by omega), if_pos (by omega), rd91 e]
/-! The reference's. -/
variable {w' h' : Int} {pal' px' ppal : List Int} {cl : Bool}
end
end Go.Proofs.Ytaebgjdaoloceaa.PureD
