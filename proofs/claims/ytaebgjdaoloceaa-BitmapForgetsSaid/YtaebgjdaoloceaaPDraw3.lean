/- A lemma file: a page on a canvas, the program's. No condition. -/
import Derived.Test.YtaebgjdaoloceaaPDraw2
namespace Go.Proofs.Ytaebgjdaoloceaa.PureD
open Go.RowKit Go.Proofs.Ytaebgjdaoloceaa.QBmpF Go.Proofs.YtaebgjdaoloceaaW.PrintWords Go.Proofs.YtaebgjdaoloceaaW.PrintMore Go.Proofs.YtaebgjdaoloceaaV
theorem set_rep {l : List Int} {a : Int} {i : Nat} (hi : i < l.length) : (List.replicate i a ++ l.drop i).set i a = List.replicate (i + 1) a ++ l.drop (i + 1) := by
  have e : (List.replicate i a).length = i := by simp
  rw [List.set_append_right _ _ (by omega), e, Nat.sub_self, List.drop_eq_getElem_cons hi, List.set_cons_zero, List.replicate_succ', List.append_assoc]
  rfl
theorem rep_len {l : List Int} {a : Int} {i : Nat} (hi : i ≤ l.length) : (List.replicate i a ++ l.drop i).length = l.length := by simp; omega
theorem ev_wipe {l : List Int} (hl : l.length ≤ 1099511627776) : Ev (fun k => bitmap_wipe.f k l) (List.replicate l.length (-1)) := by
  unfold bitmap_wipe.f
  refine Ev.all (f := fun k i => bitmap_wipe.l0 k (List.replicate i (-1) ++ l.drop i) (l.length : Int) (i : Int)) l.length (fun i hi ih => ?_) ?_
  · rw [← set_rep hi, ← w_next (by omega)] at ih
    refine Ev.step (fun k => ?_) ih
    rw [bitmap_wipe.l0, if_pos (by omega), if_pos (by omega), if_pos (by rw [rep_len (by omega)]; omega), Int.toNat_natCast]
  · refine Ev.step (f := fun _ => some (List.replicate l.length (-1))) (fun k => ?_) (Ev.now _)
    rw [bitmap_wipe.l0, if_neg (by omega)]
    simp
theorem clone_f {l : List Int} (h : l.length ≤ 1099511627776) : slices_Clone_int_int.f l = some l := by unfold slices_Clone_int_int.f; rw [if_pos (by omega)]
abbrev Res := Int × Int × List Int × List Int × Int
def drawF (w h : Int) (pal px : List Int) (cl : Bool) (ppal : List Int) (pp : List S91) : Res :=
  if validF w h pal px = true then (if checkF ppal pp = 0 then (w, h, if ppal.length > 0 then ppal else pal, pp.foldl (patchN w h) (if cl = true then List.replicate px.length (-1) else px), 0) else (0, 0, [], [], checkF ppal pp)) else (0, 0, [], [], 4)
section
variable {w h : Int} {pal px ppal : List Int} {cl : Bool} {pp : List S91}
theorem ev_draw (h1 : pal.length ≤ 1099511627776) (h2 : px.length ≤ 1099511627776) (h3 : ppal.length ≤ 1099511627776) (h4 : pp.length ≤ 1099511627776) (hf : fit pp) : Ev (fun k => bitmap_Draw.f k w h pal px cl ppal pp) (drawF w h pal px cl ppal pp) := by
  unfold bitmap_Draw.f drawF
  refine Ev.bind (ev_sound (by omega) (by omega)) ?_
  cases hv : validF w h pal px with
  | false => exact Ev.now _
  | true =>
    simp only [if_true]
    refine Ev.bind (ev_check (by omega) (by omega) hf cl) ?_
    by_cases hc : checkF ppal pp = 0
    · simp only [if_pos hc, clone_f h1, clone_f h2, Option.bind_some]
      obtain ⟨vw, vh, vp, vx, -⟩ := valid_ok hv
      obtain ⟨hn, hg⟩ := check_good hc
      have main : ∀ px2 : List Int, (px2.length : Int) = w * h → Ev (fun k => bitmap_Draw.j0 k w h pal px2 cl ppal pp) (w, h, if ppal.length > 0 then ppal else pal, pp.foldl (patchN w h) px2, 0) := by
        intro px2 hl2
        by_cases hp : ppal.length > 0
        · rw [if_pos hp]
          refine Ev.step (f := fun k => bitmap_Draw.j1 k w h ppal px2 cl ppal pp) (fun k => ?_) ?_
          · rw [bitmap_Draw.j0, if_pos (by omega), clone_f h3]; rfl
          · exact Ev.step (fun k => by rw [bitmap_Draw.j1]) (draw_l0 hg vw vh hl2 hn)
        · rw [if_neg hp]
          refine Ev.step (f := fun k => bitmap_Draw.j1 k w h pal px2 cl ppal pp) (fun k => ?_) ?_
          · rw [bitmap_Draw.j0, if_neg (by omega)]
          · exact Ev.step (fun k => by rw [bitmap_Draw.j1]) (draw_l0 hg vw vh hl2 hn)
      cases cl with
      | true =>
        simp only [if_true]
        exact Ev.bind (ev_wipe h2) (main _ (by simpa using vx))
      | false => exact main _ vx
    · simp only [if_neg hc]; exact Ev.now _
theorem draw_len (h1 : pal.length ≤ 100000) (h2 : px.length ≤ 100000) (h3 : ppal.length ≤ 100000) : (drawF w h pal px cl ppal pp).2.2.1.length ≤ 100000 ∧ (drawF w h pal px cl ppal pp).2.2.2.1.length ≤ 100000 := by
  unfold drawF
  split
  · split
    · refine ⟨?_, ?_⟩
      · show (if ppal.length > 0 then ppal else pal).length ≤ 100000
        split <;> assumption
      · show (pp.foldl (patchN w h) (if cl = true then List.replicate px.length (-1) else px)).length ≤ 100000
        rw [patches_len]; split <;> first | assumption | (simp; omega)
    · simp
  · simp
end
end Go.Proofs.Ytaebgjdaoloceaa.PureD
