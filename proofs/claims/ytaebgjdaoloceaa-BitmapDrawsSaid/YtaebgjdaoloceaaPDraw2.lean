/- A lemma file: the patches of a page on a canvas, of both sides. No condition. -/
import Derived.Test.YtaebgjdaoloceaaPDraw
namespace Go.Proofs.Ytaebgjdaoloceaa.PureD
open Go.RowKit Go.Proofs.Ytaebgjdaoloceaa.QBmpD Go.Proofs.YtaebgjdaoloceaaW.PrintWords Go.Proofs.YtaebgjdaoloceaaW.PrintMore Go.Proofs.YtaebgjdaoloceaaV
/-- Row j of a patch, its first pixels. -/
def rowN (x : S91) (w : Int) (j : Nat) (px : List Int) : Nat → List Int
  | 0 => px
  | i + 1 => (rowN x w j px i).set ((x.f1 + (j : Int)) * w + x.f0 + (i : Int)).toNat (rd x.f4 ((j : Int) * x.f2 + (i : Int)))
/-- The first rows of a patch, of each m pixels. -/
def rowsN (x : S91) (w : Int) (m : Nat) (px : List Int) : Nat → List Int
  | 0 => px
  | j + 1 => rowN x w j (rowsN x w m px j) m
def m1 (x : S91) (w : Int) : Nat := min x.f2.toNat (w - x.f0).toNat
def patchN (w h : Int) (px : List Int) (x : S91) : List Int := rowsN x w (m1 x w) px (min x.f3.toNat (h - x.f1).toNat)
theorem rowN_len (x : S91) (w : Int) (j : Nat) (px : List Int) (i : Nat) : (rowN x w j px i).length = px.length := by
  induction i with
  | zero => rfl
  | succ i ih => rw [rowN, List.length_set, ih]
theorem rowsN_len (x : S91) (w : Int) (m : Nat) (px : List Int) (j : Nat) : (rowsN x w m px j).length = px.length := by
  induction j with
  | zero => rfl
  | succ j ih => rw [rowsN, rowN_len, ih]
theorem patchN_len (w h : Int) (px : List Int) (x : S91) : (patchN w h px x).length = px.length := rowsN_len _ _ _ _ _
theorem patches_len (w h : Int) (pp : List S91) : ∀ px : List Int, (pp.foldl (patchN w h) px).length = px.length := by
  induction pp with
  | nil => intro px; rfl
  | cons x t ih => intro px; rw [List.foldl_cons, ih, patchN_len]
structure Good (x : S91) : Prop where
  a : 0 ≤ x.f0 ∧ x.f0 ≤ 999
  b : 0 ≤ x.f1 ∧ x.f1 ≤ 999
  c : 1 ≤ x.f2 ∧ x.f2 ≤ 64
  d : 1 ≤ x.f3 ∧ x.f3 ≤ 64
  e : (x.f4.length : Int) = x.f2 * x.f3
theorem good_of : ∀ {pp : List S91}, checkL pp = 0 → ∀ x ∈ pp, Good x
  | [], _ => by simp
  | x :: t, h => by
    rw [checkL] at h
    by_cases h0 : patchE x = 0
    · rw [if_pos h0] at h
      intro y hy
      rcases List.mem_cons.mp hy with rfl | hy
      · unfold patchE at h0
        by_cases hp : placeB y = true
        · rw [if_pos hp] at h0
          have := place_ok hp
          by_cases hb : y.f4.all (inB · 0 15) = true
          · rw [if_pos hb] at h0
            by_cases hw : (y.f4.length : Int) = y.f2 * y.f3
            · exact ⟨this.1, this.2.1, this.2.2.1, this.2.2.2, hw⟩
            · rw [if_neg hw] at h0; omega
          · rw [if_neg hb] at h0; omega
        · rw [if_neg hp] at h0; omega
      · exact good_of h y hy
    · rw [if_neg h0] at h; exact absurd h h0
theorem check_good {pal : List Int} {pp : List S91} (h : checkF pal pp = 0) : pp.length ≤ 8 ∧ ∀ x ∈ pp, Good x := by
  unfold checkF at h
  split at h
  · omega
  · split at h
    · exact ⟨by omega, good_of h⟩
    · omega
/-! Numbers of places. -/
section
variable {w h a b : Int}
theorem at_lt {p q : Int} (hw : 1 ≤ w ∧ w ≤ 200) (hh : 1 ≤ h ∧ h ≤ 200) (hp : 0 ≤ p ∧ p < h) (hq : 0 ≤ q ∧ q < w) : 0 ≤ p * w ∧ p * w ≤ 40000 ∧ p * w + q < w * h ∧ 0 ≤ p * w + q := by
  have e1 : p * w ≤ (h - 1) * w := Int.mul_le_mul_of_nonneg_right (by omega) (by omega)
  have e2 : (h - 1) * w = w * h - w := by rw [Int.sub_mul, Int.one_mul, Int.mul_comm]
  have e3 : 0 ≤ p * w := Int.mul_nonneg (by omega) (by omega)
  have e4 : w * h ≤ 200 * 200 := Int.mul_le_mul hw.2 hh.2 (by omega) (by omega)
  omega
theorem px_lt {x : S91} (g : Good x) {j i : Nat} (hj : (j : Int) < x.f3) (hi : (i : Int) < x.f2) : 0 ≤ (j : Int) * x.f2 ∧ (j : Int) * x.f2 ≤ 4096 ∧ (j : Int) * x.f2 + (i : Int) < (x.f4.length : Int) := by
  have e1 : (j : Int) * x.f2 ≤ (x.f3 - 1) * x.f2 := Int.mul_le_mul_of_nonneg_right (by omega) (by have := g.c; omega)
  have e2 : (x.f3 - 1) * x.f2 = x.f2 * x.f3 - x.f2 := by rw [Int.sub_mul, Int.one_mul, Int.mul_comm]
  have e3 : 0 ≤ (j : Int) * x.f2 := Int.mul_nonneg (by omega) (by have := g.c; omega)
  have e4 : x.f2 * x.f3 ≤ 64 * 64 := Int.mul_le_mul g.c.2 g.d.2 (by have := g.d; omega) (by omega)
  have := g.e
  have := g.c
  omega
end
section
variable {w h : Int} {pal px : List Int} {pp : List S91} {r : Int × Int × List Int × List Int × Int}
/-- One row, the program's. -/
theorem draw_l2 {x : S91} (g : Good x) (hw : 1 ≤ w ∧ w ≤ 200) (hh : 1 ≤ h ∧ h ≤ 200) {j : Nat} (hj : (j : Int) < x.f3 ∧ (j : Int) < h - x.f1) (hl : (px.length : Int) = w * h) {n y M : Int}
    (hk : Ev (fun k => bitmap_Draw.l1 k pp n y M ((j + 1 : Nat) : Int) w h pal (rowN x w j px (m1 x w)) x.f0 x.f1 x.f2 x.f3 x.f4) r) :
    Ev (fun k => bitmap_Draw.l2 k (j : Int) pp n y M (j : Int) (mn x.f2 (wrap64 (w - x.f0))) 0 w h pal px x.f0 x.f1 x.f2 x.f3 x.f4) r := by
  have ga := g.a
  have gb := g.b
  have gc := g.c
  have gd := g.d
  have eM : mn x.f2 (wrap64 (w - x.f0)) = min x.f2 (w - x.f0) := by rw [w64 (by omega) (by omega), mn_eq]
  refine Ev.all (f := fun k i => bitmap_Draw.l2 k (j : Int) pp n y M (j : Int) (mn x.f2 (wrap64 (w - x.f0))) (i : Int) w h pal (rowN x w j px i) x.f0 x.f1 x.f2 x.f3 x.f4) (m1 x w) (fun i hi ih => ?_) ?_
  · have hi2 : (i : Int) < x.f2 ∧ (i : Int) < w - x.f0 := by unfold m1 at hi; omega
    have p1 := px_lt g hj.1 hi2.1
    have p2 := at_lt hw hh (p := x.f1 + (j : Int)) (q := x.f0 + (i : Int)) (by omega) (by omega)
    obtain ⟨pw, hpw⟩ : ∃ pw, (x.f1 + (j : Int)) * w = pw := ⟨_, rfl⟩
    obtain ⟨jw, hjw⟩ : ∃ jw, (j : Int) * x.f2 = jw := ⟨_, rfl⟩
    rw [hpw] at p2
    rw [hjw] at p1
    have e1 : wrap64 ((j : Int) * x.f2) = jw := by rw [hjw]; exact w64 (by omega) (by omega)
    have e2 : wrap64 (jw + (i : Int)) = jw + (i : Int) := w64 (by omega) (by omega)
    have e3 : wrap64 (x.f1 + (j : Int)) = x.f1 + (j : Int) := w64 (by omega) (by omega)
    have e4 : wrap64 ((x.f1 + (j : Int)) * w) = pw := by rw [hpw]; exact w64 (by omega) (by omega)
    have e5 : wrap64 (pw + x.f0) = pw + x.f0 := w64 (by omega) (by omega)
    have e6 : wrap64 (pw + x.f0 + (i : Int)) = pw + x.f0 + (i : Int) := w64 (by omega) (by omega)
    rw [rowN, hpw, hjw] at ih
    refine Ev.step (fun k => ?_) ih
    rw [bitmap_Draw.l2, if_pos (by rw [eM]; omega), e1, e2, e3, e4, e5, e6, if_pos (by omega), if_pos (by omega), if_pos (by omega), if_pos (by rw [rowN_len]; omega), w_next (by omega)]
  · refine Ev.step (fun k => ?_) hk
    rw [bitmap_Draw.l2, if_neg (by rw [eM]; unfold m1; omega), w_next (by omega)]
/-- One patch, the program's. -/
theorem draw_l1 {x : S91} (g : Good x) (hw : 1 ≤ w ∧ w ≤ 200) (hh : 1 ≤ h ∧ h ≤ 200) (hl : (px.length : Int) = w * h) {n y : Int}
    (hk : Ev (fun k => bitmap_Draw.l0 k pp n (wrap64 (y + 1)) w h pal (patchN w h px x)) r) :
    Ev (fun k => bitmap_Draw.l1 k pp n y (mn x.f3 (wrap64 (h - x.f1))) 0 w h pal px x.f0 x.f1 x.f2 x.f3 x.f4) r := by
  have gb := g.b
  have gd := g.d
  have eM : mn x.f3 (wrap64 (h - x.f1)) = min x.f3 (h - x.f1) := by rw [w64 (by omega) (by omega), mn_eq]
  refine Ev.all (f := fun k j => bitmap_Draw.l1 k pp n y (mn x.f3 (wrap64 (h - x.f1))) (j : Int) w h pal (rowsN x w (m1 x w) px j) x.f0 x.f1 x.f2 x.f3 x.f4) (min x.f3.toNat (h - x.f1).toNat) (fun j hj ih => ?_) ?_
  · have hj2 : (j : Int) < x.f3 ∧ (j : Int) < h - x.f1 := by omega
    refine Ev.step (fun k => ?_) (draw_l2 g hw hh hj2 (px := rowsN x w (m1 x w) px j) (by rw [rowsN_len]; exact hl) ih)
    rw [bitmap_Draw.l1, if_pos (by rw [eM]; omega)]
  · refine Ev.step (fun k => ?_) hk
    rw [bitmap_Draw.l1, if_neg (by rw [eM]; omega)]
    rfl
theorem take_fold {w h : Int} {pp t : List S91} {i : Nat} {x : S91} (e : pp.drop i = x :: t) (px : List Int) : (pp.take (i + 1)).foldl (patchN w h) px = patchN w h ((pp.take i).foldl (patchN w h) px) x := by
  have hi := (drop_at e).1
  have hx : pp[i] = x := by
    have := (drop_at e).2.2 x
    rw [List.getD_eq_getElem?_getD, List.getElem?_eq_getElem hi] at this
    exact this
  rw [List.take_add_one, List.foldl_append, List.getElem?_eq_getElem hi, hx]
  rfl
/-- All patches, the program's. -/
theorem draw_l0 (hg : ∀ x ∈ pp, Good x) (hw : 1 ≤ w ∧ w ≤ 200) (hh : 1 ≤ h ∧ h ≤ 200) (hl : (px.length : Int) = w * h) (hn : pp.length ≤ 8) :
    Ev (fun k => bitmap_Draw.l0 k pp (pp.length : Int) 0 w h pal px) (w, h, pal, pp.foldl (patchN w h) px, 0) := by
  refine Ev.list (l := pp) (f := fun k i => bitmap_Draw.l0 k pp (pp.length : Int) (i : Int) w h pal ((pp.take i).foldl (patchN w h) px)) (fun _ _ => (w, h, pal, pp.foldl (patchN w h) px, 0)) ?_ ?_
  · refine Ev.step (f := fun _ => some (w, h, pal, pp.foldl (patchN w h) px, 0)) (fun k => ?_) (Ev.now _)
    rw [bitmap_Draw.l0, if_neg (by omega), List.take_length]
  · intro i x t e ih
    have hi := (drop_at e).1
    rw [take_fold e] at ih
    have g := hg x (List.mem_of_mem_drop (by rw [e]; exact List.mem_cons_self))
    rw [← w_next (by omega)] at ih
    refine Ev.step (fun k => ?_) (draw_l1 g hw hh (px := (pp.take i).foldl (patchN w h) px) (by rw [patches_len]; exact hl) ih)
    rw [bitmap_Draw.l0, if_pos (by omega), if_pos (by omega), if_pos (by omega), rd91 e]
/-! The reference's. -/
variable {w' h' : Int} {pal' px' ppal : List Int} {cl : Bool}
theorem div_parts {j i W : Nat} (hi : i < W) : (j * W + i) % W = i ∧ (j * W + i) / W = j := by
  have hW : 0 < W := by omega
  constructor
  · rw [Nat.mul_comm, Nat.mul_add_mod]; exact Nat.mod_eq_of_lt hi
  · rw [Nat.mul_comm, Nat.mul_add_div hW, Nat.div_eq_of_lt hi]; rfl
theorem k_parts {W : Nat} {v : Int} (hv : v = (W : Int)) {j i : Nat} (hi : i < W) (hb : (j : Int) * v + (i : Int) < 9223372036854775807) (h0 : 0 ≤ (j : Int) * v) :
    ((j * W + i : Nat) : Int) = (j : Int) * v + (i : Int) ∧ Int.tmod ((j * W + i : Nat) : Int) v = (i : Int) ∧ Int.tdiv ((j * W + i : Nat) : Int) v = (j : Int) ∧ wrap64 (((j * W + i : Nat) : Int) + 1) = ((j * W + (i + 1) : Nat) : Int) := by
  have hd := div_parts (j := j) (i := i) (W := W) hi
  have ek : ((j * W + i : Nat) : Int) = (j : Int) * v + (i : Int) := by rw [hv]; simp
  refine ⟨ek, ?_, ?_, ?_⟩
  · rw [hv, Int.tmod_eq_emod_of_nonneg (Int.natCast_nonneg _)]
    have : ((j * W + i : Nat) : Int) % (W : Int) = (((j * W + i) % W : Nat) : Int) := by simp
    rw [this, hd.1]
  · rw [hv, Int.tdiv_eq_ediv_of_nonneg (Int.natCast_nonneg _)]
    have : ((j * W + i : Nat) : Int) / (W : Int) = (((j * W + i) / W : Nat) : Int) := by simp
    rw [this, hd.2]
  · clear hd
    have e : ((j * W + (i + 1) : Nat) : Int) = ((j * W + i : Nat) : Int) + 1 := by rw [← Nat.add_assoc]; simp
    rw [e, ek]
    obtain ⟨q, hq⟩ : ∃ q, (j : Int) * v = q := ⟨_, rfl⟩
    rw [hq] at hb h0 ⊢
    clear hq e ek
    exact w64 (by omega) (by omega)
theorem rdraw_step {x : S91} (g : Good x) (hw : 1 ≤ w ∧ w ≤ 200) (hh : 1 ≤ h ∧ h ≤ 200) {j i : Nat} (hj : (j : Int) < x.f3) (hi : (i : Int) < x.f2) {px : List Int} (hl : (px.length : Int) = w * h) {y : Int} {k : Nat} {pala pxa : List Int} {ppl : List Int} :
    dioramaref19_Draw.l2 (k + 1) y ((j * x.f2.toNat + i : Nat) : Int) w h pala pxa cl ppl pp w' h' pal' px x.f0 x.f1 x.f2 x.f3 x.f4 =
      dioramaref19_Draw.l2 k y ((j * x.f2.toNat + (i + 1) : Nat) : Int) w h pala pxa cl ppl pp w' h' pal' (if x.f0 + (i : Int) < w ∧ x.f1 + (j : Int) < h then px.set ((x.f1 + (j : Int)) * w + x.f0 + (i : Int)).toNat (rd x.f4 ((j : Int) * x.f2 + (i : Int))) else px) x.f0 x.f1 x.f2 x.f3 x.f4 := by
  have ga := g.a
  have gb := g.b
  have gc := g.c
  have gd := g.d
  have p1 := px_lt g hj hi
  have c1 : ¬ x.f2 = 0 := by omega
  have c2 : (j : Int) * x.f2 + (i : Int) < 9223372036854775807 := by
    obtain ⟨q, hq⟩ : ∃ q, (j : Int) * x.f2 = q := ⟨_, rfl⟩
    rw [hq] at p1 ⊢
    omega
  have c3 : 0 ≤ (j : Int) * x.f2 + (i : Int) := by
    obtain ⟨q, hq⟩ : ∃ q, (j : Int) * x.f2 = q := ⟨_, rfl⟩
    rw [hq] at p1 ⊢
    omega
  obtain ⟨ek, e1, e2, en⟩ := k_parts (W := x.f2.toNat) (v := x.f2) (by omega) (j := j) (i := i) (by omega) c2 p1.1
  have p1c := p1.2.2
  have e3 : wrap64 (x.f0 + (i : Int)) = x.f0 + (i : Int) := w64 (by clear p1 p1c ek e1 e2 en c2 c3; omega) (by clear p1 p1c ek e1 e2 en c2 c3; omega)
  have e4 : wrap64 (j : Int) = (j : Int) := w64 (by clear p1 p1c ek e1 e2 en c2 c3 e3; omega) (by clear p1 p1c ek e1 e2 en c2 c3 e3; omega)
  have e5 : wrap64 (x.f1 + (j : Int)) = x.f1 + (j : Int) := w64 (by clear p1 p1c ek e1 e2 en c2 c3 e3 e4; omega) (by clear p1 p1c ek e1 e2 en c2 c3 e3 e4; omega)
  rw [dioramaref19_Draw.l2, if_pos (by rw [ek]; exact p1c), if_neg c1, e1, e2, e4, e3, e5, en]
  by_cases hc : x.f0 + (i : Int) < w
  · rw [if_pos hc]
    by_cases hr : x.f1 + (j : Int) < h
    · have p2 := at_lt hw hh (p := x.f1 + (j : Int)) (q := x.f0 + (i : Int)) (by clear p1 p1c ek e1 e2 en c2 c3 e3 e4 e5; omega) (by clear p1 p1c ek e1 e2 en c2 c3 e3 e4 e5; omega)
      rw [if_pos hr, if_pos (show x.f0 + (i : Int) < w ∧ x.f1 + (j : Int) < h from ⟨hc, hr⟩), ek]
      clear ek e1 e2 en e3 e4 e5 p1
      obtain ⟨pw, hpw⟩ : ∃ pw, (x.f1 + (j : Int)) * w = pw := ⟨_, rfl⟩
      obtain ⟨wh, hwh⟩ : ∃ wh, w * h = wh := ⟨_, rfl⟩
      rw [hpw, hwh] at p2
      rw [hwh] at hl
      have e6 : wrap64 ((x.f1 + (j : Int)) * w) = pw := by rw [hpw]; exact w64 (by omega) (by omega)
      have e7 : wrap64 (pw + (x.f0 + (i : Int))) = pw + x.f0 + (i : Int) := by rw [w64 (by omega) (by omega)]; omega
      rw [hpw] at e6 ⊢
      rw [e6, e7, if_pos c3, if_pos (by omega), if_pos (by omega)]
    · rw [if_neg hr, if_neg (fun q => hr q.2)]
  · rw [if_neg hc, if_neg (fun q => hc q.1)]
/-- One patch, the reference's. -/
theorem rdraw_l2 {x : S91} (g : Good x) (hw : 1 ≤ w ∧ w ≤ 200) (hh : 1 ≤ h ∧ h ≤ 200) (hl : (px.length : Int) = w * h) {y : Int} {pala pxa ppl : List Int}
    (hk : Ev (fun k => dioramaref19_Draw.l1 k (wrap64 (y + 1)) w h pala pxa cl ppl pp w' h' pal' (patchN w h px x)) r) :
    Ev (fun k => dioramaref19_Draw.l2 k y 0 w h pala pxa cl ppl pp w' h' pal' px x.f0 x.f1 x.f2 x.f3 x.f4) r := by
  have ga := g.a
  have gb := g.b
  have gc := g.c
  have gd := g.d
  obtain ⟨m2, hm2⟩ : ∃ m2, min x.f3.toNat (h - x.f1).toNat = m2 := ⟨_, rfl⟩
  have hz : (0 : Int) = ((0 * x.f2.toNat + 0 : Nat) : Int) := by simp
  have main : Ev (fun k => dioramaref19_Draw.l2 k y ((0 * x.f2.toNat + 0 : Nat) : Int) w h pala pxa cl ppl pp w' h' pal' (rowsN x w (m1 x w) px (min 0 m2)) x.f0 x.f1 x.f2 x.f3 x.f4) r := by
    refine Ev.all (f := fun k j => dioramaref19_Draw.l2 k y ((j * x.f2.toNat + 0 : Nat) : Int) w h pala pxa cl ppl pp w' h' pal' (rowsN x w (m1 x w) px (min j m2)) x.f0 x.f1 x.f2 x.f3 x.f4) x.f3.toNat (fun j hj ih => ?_) ?_
    · have ej : (j + 1) * x.f2.toNat + 0 = j * x.f2.toNat + x.f2.toNat := by rw [Nat.succ_mul, Nat.add_zero]
      rw [ej] at ih
      by_cases hjm : j < m2
      · rw [show min (j + 1) m2 = j + 1 by omega, rowsN] at ih
        rw [show min j m2 = j by omega]
        refine Ev.all (f := fun k i => dioramaref19_Draw.l2 k y ((j * x.f2.toNat + i : Nat) : Int) w h pala pxa cl ppl pp w' h' pal' (rowN x w j (rowsN x w (m1 x w) px j) (min i (m1 x w))) x.f0 x.f1 x.f2 x.f3 x.f4) x.f2.toNat (fun i hi ih2 => ?_) ?_
        · refine Ev.step (fun k => ?_) ih2
          rw [rdraw_step g hw hh (j := j) (i := i) (by omega) (by omega) (by rw [rowN_len, rowsN_len]; exact hl)]
          by_cases hc : x.f0 + (i : Int) < w ∧ x.f1 + (j : Int) < h
          · rw [if_pos hc, show min (i + 1) (m1 x w) = i + 1 by unfold m1; omega, show min i (m1 x w) = i by unfold m1; omega, rowN]
          · rw [if_neg hc, show min (i + 1) (m1 x w) = min i (m1 x w) by unfold m1; omega]
        · rw [show min x.f2.toNat (m1 x w) = m1 x w by unfold m1; omega]
          exact ih
      · rw [show min (j + 1) m2 = m2 by omega] at ih
        rw [show min j m2 = m2 by omega]
        refine Ev.all (f := fun k i => dioramaref19_Draw.l2 k y ((j * x.f2.toNat + i : Nat) : Int) w h pala pxa cl ppl pp w' h' pal' (rowsN x w (m1 x w) px m2) x.f0 x.f1 x.f2 x.f3 x.f4) x.f2.toNat (fun i hi ih2 => ?_) ih
        refine Ev.step (fun k => ?_) ih2
        rw [rdraw_step g hw hh (j := j) (i := i) (by omega) (by omega) (by rw [rowsN_len]; exact hl), if_neg (by omega)]
    · refine Ev.step (fun k => ?_) hk
      have e1 : ((x.f3.toNat * x.f2.toNat + 0 : Nat) : Int) = (x.f4.length : Int) := by
        rw [g.e, Nat.add_zero, Int.natCast_mul, Int.toNat_of_nonneg (by omega), Int.toNat_of_nonneg (by omega), Int.mul_comm]
      rw [dioramaref19_Draw.l2, if_neg (by rw [e1]; omega), show min x.f3.toNat m2 = m2 by omega, ← hm2]
      rfl
  rw [hz]
  exact main
/-- All patches, the reference's. -/
theorem rdraw_l1 (hg : ∀ x ∈ pp, Good x) (hw : 1 ≤ w ∧ w ≤ 200) (hh : 1 ≤ h ∧ h ≤ 200) (hl : (px.length : Int) = w * h) (hn : pp.length ≤ 8) {pala pxa ppl : List Int} :
    Ev (fun k => dioramaref19_Draw.l1 k 0 w h pala pxa cl ppl pp w h pal px) (w, h, pal, pp.foldl (patchN w h) px, 0) := by
  refine Ev.list (l := pp) (f := fun k i => dioramaref19_Draw.l1 k (i : Int) w h pala pxa cl ppl pp w h pal ((pp.take i).foldl (patchN w h) px)) (fun _ _ => (w, h, pal, pp.foldl (patchN w h) px, 0)) ?_ ?_
  · refine Ev.step (f := fun _ => some (w, h, pal, pp.foldl (patchN w h) px, 0)) (fun k => ?_) (Ev.now _)
    rw [dioramaref19_Draw.l1, if_neg (by omega), List.take_length]
  · intro i x t e ih
    have hi := (drop_at e).1
    rw [take_fold e] at ih
    have g := hg x (List.mem_of_mem_drop (by rw [e]; exact List.mem_cons_self))
    rw [← w_next (by omega)] at ih
    refine Ev.step (fun k => ?_) (rdraw_l2 g hw hh (px := (pp.take i).foldl (patchN w h) px) (by rw [patches_len]; exact hl) ih)
    rw [dioramaref19_Draw.l1, if_pos (by omega), if_pos (by omega), rd91 e]
end
end Go.Proofs.Ytaebgjdaoloceaa.PureD
