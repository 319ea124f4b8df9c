/- A lemma file: drawing, composing, an empty canvas, of both sides. No condition. -/
import Derived.Test.YtaebgjdaoloceaaPDraw2
namespace Go.Proofs.Ytaebgjdaoloceaa.PureD
open Go.RowKit Go.Proofs.Ytaebgjdaoloceaa.QBmpD Go.Proofs.YtaebgjdaoloceaaW.PrintWords Go.Proofs.YtaebgjdaoloceaaW.PrintMore Go.Proofs.YtaebgjdaoloceaaV
theorem set_rep {l : List Int} {a : Int} {i : Nat} (hi : i < l.length) : (List.replicate i a ++ l.drop i).set i a = List.replicate (i + 1) a ++ l.drop (i + 1) := by
  have e : (List.replicate i a).length = i := by simp
  rw [List.set_append_right _ _ (by omega), e, Nat.sub_self, List.drop_eq_getElem_cons hi, List.set_cons_zero, List.replicate_succ', List.append_assoc]
  rfl
theorem rep_len {l : List Int} {a : Int} {i : Nat} (hi : i ≤ l.length) : (List.replicate i a ++ l.drop i).length = l.length := by simp; omega
theorem ev_wipe {l : List Int} (hl : l.length ≤ 1099511627776) : Ev (fun k => bitmap_wipe.f k l) (List.replicate l.length (-1)) := by
  unfold bitmap_wipe.f
  refine Ev.all (f := fun k i => bitmap_wipe.l0 k (List.replicate i (-1) ++ l.drop i) (l.length : Int) (i : Int)) l.length (fun i hi ih => ?_) ?_
  · rw [← set_rep hi, ← w_next (by omega)] at ih
    refine Ev.step (fun k => ?_) ih
    rw [bitmap_wipe.l0, if_pos (by omega), if_pos (by omega), if_pos (by rw [rep_len (by omega)]; omega), Int.toNat_natCast]
  · refine Ev.step (f := fun _ => some (List.replicate l.length (-1))) (fun k => ?_) (Ev.now _)
    rw [bitmap_wipe.l0, if_neg (by omega)]
    simp
theorem clone_f {l : List Int} (h : l.length ≤ 1099511627776) : slices_Clone_int_int.f l = some l := by unfold slices_Clone_int_int.f; rw [if_pos (by omega)]
theorem ev_copy {l : List Int} (h : l.length ≤ 1099511627776) : Ev (fun k => dioramaref00_CopyInts.f k l) l := by
  unfold dioramaref00_CopyInts.f
  simp only [if_pos (show 0 ≤ (l.length : Int) by omega), if_pos (show ((l.length : Int) : Int).toNat ≤ 35184372088832 by omega)]
  refine Ev.list (l := l) (f := fun k i => dioramaref00_CopyInts.l0 k l (l.take i) (i : Int)) (fun _ _ => l) ?_ ?_
  · refine Ev.step (f := fun _ => some l) (fun k => ?_) (Ev.now _)
    rw [dioramaref00_CopyInts.l0, if_neg (by omega), List.take_length]
  · intro i x t e ih
    have hi := (drop_at e).1
    have ex := rd_drop e
    have e1 : l.take (i + 1) = l.take i ++ [x] := by
      have hx : l[i] = x := by
        have := (drop_at e).2.2 x
        rw [List.getD_eq_getElem?_getD, List.getElem?_eq_getElem hi] at this
        exact this
      rw [List.take_add_one, List.getElem?_eq_getElem hi, hx]; rfl
    rw [e1, ← w_next (by omega)] at ih
    refine Ev.step (fun k => ?_) ih
    rw [dioramaref00_CopyInts.l0, if_pos (by omega), if_pos (by omega), if_pos (by rw [List.length_take]; omega), ex]
abbrev Res := Int × Int × List Int × List Int × Int
def drawF (w h : Int) (pal px : List Int) (cl : Bool) (ppal : List Int) (pp : List S91) : Res :=
  if validF w h pal px = true then (if checkF ppal pp = 0 then (w, h, if ppal.length > 0 then ppal else pal, pp.foldl (patchN w h) (if cl = true then List.replicate px.length (-1) else px), 0) else (0, 0, [], [], checkF ppal pp)) else (0, 0, [], [], 4)
section
variable {w h : Int} {pal px ppal : List Int} {cl : Bool} {pp : List S91}
theorem ev_draw (h1 : pal.length ≤ 1099511627776) (h2 : px.length ≤ 1099511627776) (h3 : ppal.length ≤ 1099511627776) (h4 : pp.length ≤ 1099511627776) (hf : fit pp) : Ev (fun k => bitmap_Draw.f k w h pal px cl ppal pp) (drawF w h pal px cl ppal pp) := by
  unfold bitmap_Draw.f drawF
  refine Ev.bind (ev_sound (by omega) (by omega)) ?_
  cases hv : validF w h pal px with
  | false => exact Ev.now _
  | true =>
    simp only [if_true]
    refine Ev.bind (ev_check (by omega) (by omega) hf cl) ?_
    by_cases hc : checkF ppal pp = 0
    · simp only [if_pos hc, clone_f h1, clone_f h2, Option.bind_some]
      obtain ⟨vw, vh, vp, vx, -⟩ := valid_ok hv
      obtain ⟨hn, hg⟩ := check_good hc
      have main : ∀ px2 : List Int, (px2.length : Int) = w * h → Ev (fun k => bitmap_Draw.j0 k w h pal px2 cl ppal pp) (w, h, if ppal.length > 0 then ppal else pal, pp.foldl (patchN w h) px2, 0) := by
        intro px2 hl2
        by_cases hp : ppal.length > 0
        · rw [if_pos hp]
          refine Ev.step (f := fun k => bitmap_Draw.j1 k w h ppal px2 cl ppal pp) (fun k => ?_) ?_
          · rw [bitmap_Draw.j0, if_pos (by omega), clone_f h3]; rfl
          · exact Ev.step (fun k => by rw [bitmap_Draw.j1]) (draw_l0 hg vw vh hl2 hn)
        · rw [if_neg hp]
          refine Ev.step (f := fun k => bitmap_Draw.j1 k w h pal px2 cl ppal pp) (fun k => ?_) ?_
          · rw [bitmap_Draw.j0, if_neg (by omega)]
          · exact Ev.step (fun k => by rw [bitmap_Draw.j1]) (draw_l0 hg vw vh hl2 hn)
      cases cl with
      | true =>
        simp only [if_true]
        exact Ev.bind (ev_wipe h2) (main _ (by simpa using vx))
      | false => exact main _ vx
    · simp only [if_neg hc]; exact Ev.now _
theorem ev_rdraw (h1 : pal.length ≤ 1099511627776) (h2 : px.length ≤ 1099511627776) (h3 : ppal.length ≤ 1099511627776) (h4 : pp.length ≤ 1099511627776) (hf : fit pp) : Ev (fun k => dioramaref19_Draw.f k w h pal px cl ppal pp) (drawF w h pal px cl ppal pp) := by
  unfold dioramaref19_Draw.f drawF
  refine Ev.bind (ev_valid (by omega) (by omega)) ?_
  cases hv : validF w h pal px with
  | false => exact Ev.now _
  | true =>
    simp only [if_true]
    refine Ev.bind (ev_rcheck (by omega) (by omega) hf cl) ?_
    by_cases hc : checkF ppal pp = 0
    · simp only [if_pos hc]
      refine Ev.bind (ev_copy h1) (Ev.bind (ev_copy h2) ?_)
      obtain ⟨vw, vh, vp, vx, -⟩ := valid_ok hv
      obtain ⟨hn, hg⟩ := check_good hc
      have main : ∀ px2 : List Int, (px2.length : Int) = w * h → Ev (fun k => dioramaref19_Draw.j1 k w h pal px cl ppal pp w h pal px2) (w, h, if ppal.length > 0 then ppal else pal, pp.foldl (patchN w h) px2, 0) := by
        intro px2 hl2
        by_cases hp : ppal.length > 0
        · rw [if_pos hp]
          refine Ev.step (f := fun k => (dioramaref00_CopyInts.f k ppal).bind fun t405 => (dioramaref19_Draw.j2 k w h pal px cl ppal pp w h t405 px2)) (fun k => ?_) ?_
          · rw [dioramaref19_Draw.j1, if_pos (by omega)]
          · refine Ev.bind (ev_copy h3) ?_
            exact Ev.step (fun k => by rw [dioramaref19_Draw.j2]) (rdraw_l1 hg vw vh hl2 hn)
        · rw [if_neg hp]
          refine Ev.step (f := fun k => dioramaref19_Draw.j2 k w h pal px cl ppal pp w h pal px2) (fun k => ?_) ?_
          · rw [dioramaref19_Draw.j1, if_neg (by omega)]
          · exact Ev.step (fun k => by rw [dioramaref19_Draw.j2]) (rdraw_l1 hg vw vh hl2 hn)
      cases cl with
      | true =>
        simp only [if_true]
        refine Ev.all (f := fun k i => dioramaref19_Draw.l0 k (i : Int) w h pal px true ppal pp w h pal (List.replicate i (-1) ++ px.drop i)) px.length (fun i hi ih => ?_) ?_
        · rw [← set_rep hi, ← w_next (by omega)] at ih
          refine Ev.step (fun k => ?_) ih
          rw [dioramaref19_Draw.l0, if_pos (by rw [rep_len (by omega)]; omega), if_pos (by omega), Int.toNat_natCast]
        · have hm := main (List.replicate px.length (-1)) (by simpa using vx)
          refine Ev.step (fun k => ?_) hm
          rw [dioramaref19_Draw.l0, if_neg (by rw [rep_len (Nat.le_refl _)]; omega)]
          simp
      | false => exact main _ vx
    · simp only [if_neg hc]; exact Ev.now _
theorem draw_len (h1 : pal.length ≤ 100000) (h2 : px.length ≤ 100000) (h3 : ppal.length ≤ 100000) : (drawF w h pal px cl ppal pp).2.2.1.length ≤ 100000 ∧ (drawF w h pal px cl ppal pp).2.2.2.1.length ≤ 100000 := by
  unfold drawF
  split
  · split
    · refine ⟨?_, ?_⟩
      · show (if ppal.length > 0 then ppal else pal).length ≤ 100000
        split <;> assumption
      · show (pp.foldl (patchN w h) (if cl = true then List.replicate px.length (-1) else px)).length ≤ 100000
        rw [patches_len]; split <;> first | assumption | (simp; omega)
    · simp
  · simp
end
end Go.Proofs.Ytaebgjdaoloceaa.PureD
