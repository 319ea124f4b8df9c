/- A lemma file: drawing, composing, an empty canvas, of both sides. No condition. -/
import Derived.Test.YtaebgjdaoloceaaPDraw2
namespace Go.Proofs.Ytaebgjdaoloceaa.PureD
open Go.RowKit Go.Proofs.Ytaebgjdaoloceaa.QBmpC Go.Proofs.YtaebgjdaoloceaaW.PrintWords Go.Proofs.YtaebgjdaoloceaaW.PrintMore Go.Proofs.YtaebgjdaoloceaaV
theorem set_rep {l : List Int} {a : Int} {i : Nat} (hi : i < l.length) : (List.replicate i a ++ l.drop i).set i a = List.replicate (i + 1) a ++ l.drop (i + 1) := by
  have e : (List.replicate i a).length = i := by simp
  rw [List.set_append_right _ _ (by omega), e, Nat.sub_self, List.drop_eq_getElem_cons hi, List.set_cons_zero, List.replicate_succ', List.append_assoc]
  rfl
theorem rep_len {l : List Int} {a : Int} {i : Nat} (hi : i ≤ l.length) : (List.replicate i a ++ l.drop i).length = l.length := by simp; omega
theorem ev_wipe {l : List Int} (hl : l.length ≤ 1099511627776) : Ev (fun k => bitmap_wipe.f k l) (List.replicate l.length (-1)) := by
  unfold bitmap_wipe.f
  refine Ev.all (f := fun k i => bitmap_wipe.l0 k (List.replicate i (-1) ++ l.drop i) (l.length : Int) (i : Int)) l.length (fun i hi ih => ?_) ?_
  · rw [← set_rep hi, ← w_next (by omega)] at ih
    refine Ev.step (fun k => ?_) ih
    rw [bitmap_wipe.l0, if_pos (by omega), if_pos (by omega), if_pos (by rw [rep_len (by omega)]; omega), Int.toNat_natCast]
  · refine Ev.step (f := fun _ => some (List.replicate l.length (-1))) (fun k => ?_) (Ev.now _)
    rw [bitmap_wipe.l0, if_neg (by omega)]
    simp
theorem clone_f {l : List Int} (h : l.length ≤ 1099511627776) : slices_Clone_int_int.f l = some l := by unfold slices_Clone_int_int.f; rw [if_pos (by omega)]
theorem ev_copy {l : List Int} (h : l.length ≤ 1099511627776) : Ev (fun k => dioramaref00_CopyInts.f k l) l := by
  unfold dioramaref00_CopyInts.f
  simp only [if_pos (show 0 ≤ (l.length : Int) by omega), if_pos (show ((l.length : Int) : Int).toNat ≤ 35184372088832 by omega)]
  refine Ev.list (l := l) (f := fun k i => dioramaref00_CopyInts.l0 k l (l.take i) (i : Int)) (fun _ _ => l) ?_ ?_
  · refine Ev.step (f := fun _ => some l) (fun k => ?_) (Ev.now _)
    rw [dioramaref00_CopyInts.l0, if_neg (by omega), List.take_length]
  · intro i x t e ih
    have hi := (drop_at e).1
    have ex := rd_drop e
    have e1 : l.take (i + 1) = l.take i ++ [x] := by
      have hx : l[i] = x := by
        have := (drop_at e).2.2 x
        rw [List.getD_eq_getElem?_getD, List.getElem?_eq_getElem hi] at this
        exact this
      rw [List.take_add_one, List.getElem?_eq_getElem hi, hx]; rfl
    rw [e1, ← w_next (by omega)] at ih
    refine Ev.step (fun k => ?_) ih
    rw [dioramaref00_CopyInts.l0, if_pos (by omega), if_pos (by omega), if_pos (by rw [List.length_take]; omega), ex]
abbrev Res := Int × Int × List Int × List Int × Int
def drawF (w h : Int) (pal px : List Int) (cl : Bool) (ppal : List Int) (pp : List S91) : Res :=
  if validF w h pal px = true then (if checkF ppal pp = 0 then (w, h, if ppal.length > 0 then ppal else pal, pp.foldl (patchN w h) (if cl = true then List.replicate px.length (-1) else px), 0) else (0, 0, [], [], checkF ppal pp)) else (0, 0, [], [], 4)
section
variable {w h : Int} {pal px ppal : List Int} {cl : Bool} {pp : List S91}
theorem ev_draw (h1 : pal.length ≤ 1099511627776) (h2 : px.length ≤ 1099511627776) (h3 : ppal.length ≤ 1099511627776) (h4 : pp.length ≤ 1099511627776) (hf : fit pp) : Ev (fun k => bitmap_Draw.f k w h pal px cl ppal pp) (drawF w h pal px cl ppal pp) := by
  unfold bitmap_Draw.f drawF
  refine Ev.bind (ev_sound (by omega) (by omega)) ?_
  cases hv : validF w h pal px with
  | false => exact Ev.now _
  | true =>
    simp only [if_true]
    refine Ev.bind (ev_check (by omega) (by omega) hf cl) ?_
    by_cases hc : checkF ppal pp = 0
    · simp only [if_pos hc, clone_f h1, clone_f h2, Option.bind_some]
      obtain ⟨vw, vh, vp, vx, -⟩ := valid_ok hv
      obtain ⟨hn, hg⟩ := check_good hc
      have main : ∀ px2 : List Int, (px2.length : Int) = w * h → Ev (fun k => bitmap_Draw.j0 k w h pal px2 cl ppal pp) (w, h, if ppal.length > 0 then ppal else pal, pp.foldl (patchN w h) px2, 0) := by
        intro px2 hl2
        by_cases hp : ppal.length > 0
        · rw [if_pos hp]
          refine Ev.step (f := fun k => bitmap_Draw.j1 k w h ppal px2 cl ppal pp) (fun k => ?_) ?_
          · rw [bitmap_Draw.j0, if_pos (by omega), clone_f h3]; rfl
          · exact Ev.step (fun k => by rw [bitmap_Draw.j1]) (draw_l0 hg vw vh hl2 hn)
        · rw [if_neg hp]
          refine Ev.step (f := fun k => bitmap_Draw.j1 k w h pal px2 cl ppal pp) (fun k => ?_) ?_
          · rw [bitmap_Draw.j0, if_neg (by omega)]
          · exact Ev.step (fun k => by rw [bitmap_Draw.j1]) (draw_l0 hg vw vh hl2 hn)
      cases cl with
      | true =>
        simp only [if_true]
        exact Ev.bind (ev_wipe h2) (main _ (by simpa using vx))
      | false => exact main _ vx
    · simp only [if_neg hc]; exact Ev.now _
theorem ev_rdraw (h1 : pal.length ≤ 1099511627776) (h2 : px.length ≤ 1099511627776) (h3 : ppal.length ≤ 1099511627776) (h4 : pp.length ≤ 1099511627776) (hf : fit pp) : Ev (fun k => dioramaref19_Draw.f k w h pal px cl ppal pp) (drawF w h pal px cl ppal pp) := by
  unfold dioramaref19_Draw.f drawF
  refine Ev.bind (ev_valid (by omega) (by omega)) ?_
  cases hv : validF w h pal px with
  | false => exact Ev.now _
  | true =>
    simp only [if_true]
    refine Ev.bind (ev_rcheck (by omega) (by omega) hf cl) ?_
    by_cases hc : checkF ppal pp = 0
    · simp only [if_pos hc]
      refine Ev.bind (ev_copy h1) (Ev.bind (ev_copy h2) ?_)
      obtain ⟨vw, vh, vp, vx, -⟩ := valid_ok hv
      obtain ⟨hn, hg⟩ := check_good hc
      have main : ∀ px2 : List Int, (px2.length : Int) = w * h → Ev (fun k => dioramaref19_Draw.j1 k w h pal px cl ppal pp w h pal px2) (w, h, if ppal.length > 0 then ppal else pal, pp.foldl (patchN w h) px2, 0) := by
        intro px2 hl2
        by_cases hp : ppal.length > 0
        · rw [if_pos hp]
          refine Ev.step (f := fun k => (dioramaref00_CopyInts.f k ppal).bind fun t405 => (dioramaref19_Draw.j2 k w h pal px cl ppal pp w h t405 px2)) (fun k => ?_) ?_
          · rw [dioramaref19_Draw.j1, if_pos (by omega)]
          · refine Ev.bind (ev_copy h3) ?_
            exact Ev.step (fun k => by rw [dioramaref19_Draw.j2]) (rdraw_l1 hg vw vh hl2 hn)
        · rw [if_neg hp]
          refine Ev.step (f := fun k => dioramaref19_Draw.j2 k w h pal px cl ppal pp w h pal px2) (fun k => ?_) ?_
          · rw [dioramaref19_Draw.j1, if_neg (by omega)]
          · exact Ev.step (fun k => by rw [dioramaref19_Draw.j2]) (rdraw_l1 hg vw vh hl2 hn)
      cases cl with
      | true =>
        simp only [if_true]
        refine Ev.all (f := fun k i => dioramaref19_Draw.l0 k (i : Int) w h pal px true ppal pp w h pal (List.replicate i (-1) ++ px.drop i)) px.length (fun i hi ih => ?_) ?_
        · rw [← set_rep hi, ← w_next (by omega)] at ih
          refine Ev.step (fun k => ?_) ih
          rw [dioramaref19_Draw.l0, if_pos (by rw [rep_len (by omega)]; omega), if_pos (by omega), Int.toNat_natCast]
        · have hm := main (List.replicate px.length (-1)) (by simpa using vx)
          refine Ev.step (fun k => ?_) hm
          rw [dioramaref19_Draw.l0, if_neg (by rw [rep_len (Nat.le_refl _)]; omega)]
          simp
      | false => exact main _ vx
    · simp only [if_neg hc]; exact Ev.now _
theorem draw_len (h1 : pal.length ≤ 100000) (h2 : px.length ≤ 100000) (h3 : ppal.length ≤ 100000) : (drawF w h pal px cl ppal pp).2.2.1.length ≤ 100000 ∧ (drawF w h pal px cl ppal pp).2.2.2.1.length ≤ 100000 := by
  unfold drawF
  split
  · split
    · refine ⟨?_, ?_⟩
      · show (if ppal.length > 0 then ppal else pal).length ≤ 100000
        split <;> assumption
      · show (pp.foldl (patchN w h) (if cl = true then List.replicate px.length (-1) else px)).length ≤ 100000
        rw [patches_len]; split <;> first | assumption | (simp; omega)
    · simp
  · simp
end
def emptyF (w h : Int) : Res := if inB w 1 200 = true then (if inB h 1 200 = true then (w, h, [], List.replicate (w * h).toNat (-1), 0) else (0, 0, [], [], 1)) else (0, 0, [], [], 1)
theorem ev_empty (w h : Int) : Ev (fun k => bitmap_Empty.f k w h) (emptyF w h) := by
  unfold bitmap_Empty.f emptyF
  simp only [within_d, Option.bind_some]
  cases h1 : inB w 1 200 with
  | false => exact Ev.now _
  | true =>
    cases h2 : inB h 1 200 with
    | false => exact Ev.now _
    | true =>
      obtain ⟨e1, e2, e3⟩ := wh_wrap h1 h2
      simp only [if_true, e1, if_pos e2, if_pos (show (w * h).toNat ≤ 35184372088832 by omega)]
      refine Ev.bind (ev_wipe (by simp; omega)) ?_
      rw [List.length_replicate]
      exact Ev.now _
theorem ev_rempty (w h : Int) : Ev (fun k => dioramaref19_Empty.f k w h) (emptyF w h) := by
  have hno : Ev (fun k => dioramaref19_Empty.j0 k w h true) (0, 0, [], [], 1) := Ev.step (f := fun _ => some (0, 0, [], [], 1)) (fun k => by rw [dioramaref19_Empty.j0, if_pos rfl]) (Ev.now _)
  unfold dioramaref19_Empty.f emptyF
  simp only [in_d, Option.bind_some]
  cases h1 : inB w 1 200 with
  | false => exact hno
  | true =>
    cases h2 : inB h 1 200 with
    | false => exact hno
    | true =>
      obtain ⟨e1, e2, e3⟩ := wh_wrap h1 h2
      simp only [if_true]
      obtain ⟨m, hm⟩ := Int.eq_ofNat_of_zero_le e2
      refine Ev.step (f := fun k => dioramaref19_Empty.l0 k w h 0 w h []) (fun k => by rw [dioramaref19_Empty.j0, if_neg (by simp)]) ?_
      refine Ev.all (f := fun k i => dioramaref19_Empty.l0 k w h (i : Int) w h (List.replicate i (-1))) m (fun i hi ih => ?_) ?_
      · rw [List.replicate_succ', ← w_next (by omega)] at ih
        refine Ev.step (fun k => ?_) ih
        rw [dioramaref19_Empty.l0, e1, hm, if_pos (by omega), if_pos (by simp; omega)]
      · refine Ev.step (f := fun _ => some (w, h, [], List.replicate (w * h).toNat (-1), 0)) (fun k => ?_) (Ev.now _)
        rw [dioramaref19_Empty.l0, e1, hm, if_neg (by omega)]; rfl
theorem empty_len (w h : Int) : (emptyF w h).2.2.1.length ≤ 100000 ∧ (emptyF w h).2.2.2.1.length ≤ 100000 := by
  unfold emptyF
  split
  · rename_i h1
    split
    · rename_i h2
      have := wh_wrap h1 h2
      simp; omega
    · simp
  · simp
/-- Pages, one after the other. -/
def goesF : Int → Int → List Int → List Int → List S51 → Res
  | w, h, pal, px, [] => (w, h, pal, px, 0)
  | w, h, pal, px, p :: t => if (drawF w h pal px p.f0 p.f1 p.f2).2.2.2.2 = 0 then goesF (drawF w h pal px p.f0 p.f1 p.f2).1 (drawF w h pal px p.f0 p.f1 p.f2).2.1 (drawF w h pal px p.f0 p.f1 p.f2).2.2.1 (drawF w h pal px p.f0 p.f1 p.f2).2.2.2.1 t else (0, 0, [], [], (drawF w h pal px p.f0 p.f1 p.f2).2.2.2.2)
def composeF (l : List S51) (w h : Int) : Res := if (emptyF w h).2.2.2.2 = 0 then goesF (emptyF w h).1 (emptyF w h).2.1 (emptyF w h).2.2.1 (emptyF w h).2.2.2.1 l else (0, 0, [], [], (emptyF w h).2.2.2.2)
def smallP (p : S51) : Prop := p.f1.length ≤ 100 ∧ p.f2.length ≤ 20 ∧ ∀ x ∈ p.f2, x.f4.length ≤ 5000
theorem rd51 {l t : List S51} {i : Nat} {x : S51} (h : l.drop i = x :: t) : rd_T51 l (i : Int) = x := by
  show l.getD (i : Int).toNat z51 = x
  rw [Int.toNat_natCast]; exact (drop_at h).2.2 z51
section
variable {l : List S51} (hs : ∀ p ∈ l, smallP p) (hl : l.length ≤ 1000)
include hs hl
theorem goes_ev : ∀ (t : List S51) (i : Nat) (w h : Int) (pal px : List Int), l.drop i = t → i ≤ l.length → pal.length ≤ 100000 → px.length ≤ 100000 → Ev (fun k => bitmap_Compose.l0 k l (l.length : Int) (i : Int) w h pal px) (goesF w h pal px t)
  | [], i, w, h, pal, px, e, hi, h1, h2 => by
    have : i = l.length := by have h2 := congrArg List.length e; simp at h2; omega
    subst this
    refine Ev.step (f := fun _ => some (w, h, pal, px, 0)) (fun k => ?_) (Ev.now _)
    rw [bitmap_Compose.l0, if_neg (by omega)]
  | p :: t, i, w, h, pal, px, e, hi, h1, h2 => by
    have hi2 := (drop_at e).1
    have sp := hs p (List.mem_of_mem_drop (by rw [e]; exact List.mem_cons_self))
    have hd := draw_len (w := w) (h := h) (pal := pal) (px := px) (cl := p.f0) (ppal := p.f1) (pp := p.f2) h1 h2 (by have := sp.1; omega)
    refine Ev.step (f := fun k => (bitmap_Draw.f k w h pal px p.f0 p.f1 p.f2).bind fun bt353 => (if bt353.2.2.2.2 = 0 then (bitmap_Compose.l0 k l (l.length : Int) ((i + 1 : Nat) : Int) bt353.1 bt353.2.1 bt353.2.2.1 bt353.2.2.2.1) else (some (0, 0, ([] : List Int), ([] : List Int), bt353.2.2.2.2)))) (fun k => ?_) ?_
    · rw [bitmap_Compose.l0, if_pos (by omega), if_pos (by omega), if_pos (by omega), rd51 e, w_next (by omega)]
    · refine Ev.bind (ev_draw (by omega) (by omega) (by have := sp.1; omega) (by have := sp.2.1; omega) (fun x hx => by have := sp.2.2 x hx; omega)) ?_
      rw [goesF]
      by_cases hz : (drawF w h pal px p.f0 p.f1 p.f2).2.2.2.2 = 0
      · simp only [if_pos hz]
        exact goes_ev t (i + 1) _ _ _ _ (drop_at e).2.1 hi2 hd.1 hd.2
      · simp only [if_neg hz]; exact Ev.now _
theorem rgoes_ev : ∀ (t : List S51) (i : Nat) (w h : Int) (pal px : List Int), l.drop i = t → i ≤ l.length → pal.length ≤ 100000 → px.length ≤ 100000 → Ev (fun k => dioramaref19_Compose.l0 k l 0 (i : Int) w h pal px) (goesF w h pal px t)
  | [], i, w, h, pal, px, e, hi, h1, h2 => by
    have : i = l.length := by have h2 := congrArg List.length e; simp at h2; omega
    subst this
    refine Ev.step (f := fun _ => some (w, h, pal, px, 0)) (fun k => ?_) (Ev.now _)
    rw [dioramaref19_Compose.l0, if_neg (by omega), if_pos rfl]
  | p :: t, i, w, h, pal, px, e, hi, h1, h2 => by
    have hi2 := (drop_at e).1
    have sp := hs p (List.mem_of_mem_drop (by rw [e]; exact List.mem_cons_self))
    have hd := draw_len (w := w) (h := h) (pal := pal) (px := px) (cl := p.f0) (ppal := p.f1) (pp := p.f2) h1 h2 (by have := sp.1; omega)
    refine Ev.step (f := fun k => (dioramaref19_Draw.f k w h pal px p.f0 p.f1 p.f2).bind fun bt424 => (dioramaref19_Compose.l0 k l bt424.2.2.2.2 ((i + 1 : Nat) : Int) bt424.1 bt424.2.1 bt424.2.2.1 bt424.2.2.2.1)) (fun k => ?_) ?_
    · rw [dioramaref19_Compose.l0, if_pos (by omega), if_pos rfl, if_pos (by omega), rd51 e, w_next (by omega)]
    · refine Ev.bind (ev_rdraw (by omega) (by omega) (by have := sp.1; omega) (by have := sp.2.1; omega) (fun x hx => by have := sp.2.2 x hx; omega)) ?_
      rw [goesF]
      by_cases hz : (drawF w h pal px p.f0 p.f1 p.f2).2.2.2.2 = 0
      · rw [if_pos hz, hz]
        exact rgoes_ev t (i + 1) _ _ _ _ (drop_at e).2.1 hi2 hd.1 hd.2
      · rw [if_neg hz]
        refine Ev.step (f := fun _ => some (0, 0, [], [], (drawF w h pal px p.f0 p.f1 p.f2).2.2.2.2)) (fun k => ?_) (Ev.now _)
        rw [dioramaref19_Compose.l0]
        simp only [if_neg hz]
        split <;> rfl
theorem ev_compose (w h : Int) : Ev (fun k => bitmap_Compose.f k l w h) (composeF l w h) := by
  unfold bitmap_Compose.f composeF
  refine Ev.bind (ev_empty w h) ?_
  by_cases hz : (emptyF w h).2.2.2.2 = 0
  · simp only [if_pos hz]
    exact goes_ev hs hl l 0 _ _ _ _ rfl (Nat.zero_le _) (empty_len w h).1 (empty_len w h).2
  · simp only [if_neg hz]; exact Ev.now _
theorem ev_rcompose (w h : Int) : Ev (fun k => dioramaref19_Compose.f k l w h) (composeF l w h) := by
  unfold dioramaref19_Compose.f composeF
  refine Ev.bind (ev_rempty w h) ?_
  by_cases hz : (emptyF w h).2.2.2.2 = 0
  · rw [if_pos hz, hz]
    exact rgoes_ev hs hl l 0 _ _ _ _ rfl (Nat.zero_le _) (empty_len w h).1 (empty_len w h).2
  · rw [if_neg hz]
    refine Ev.step (f := fun _ => some (0, 0, [], [], (emptyF w h).2.2.2.2)) (fun k => ?_) (Ev.now _)
    rw [dioramaref19_Compose.l0]
    simp only [if_neg hz]
    split <;> rfl
end
theorem goes_len : ∀ (t : List S51) (w h : Int) (pal px : List Int), (∀ p ∈ t, smallP p) → pal.length ≤ 100000 → px.length ≤ 100000 → (goesF w h pal px t).2.2.1.length ≤ 100000 ∧ (goesF w h pal px t).2.2.2.1.length ≤ 100000
  | [], _, _, _, _, _, h1, h2 => ⟨h1, h2⟩
  | p :: t, w, h, pal, px, hs, h1, h2 => by
    have sp := hs p List.mem_cons_self
    have hd := draw_len (w := w) (h := h) (pal := pal) (px := px) (cl := p.f0) (ppal := p.f1) (pp := p.f2) h1 h2 (by have := sp.1; omega)
    rw [goesF]
    split
    · exact goes_len t _ _ _ _ (fun q hq => hs q (List.mem_cons_of_mem _ hq)) hd.1 hd.2
    · simp
theorem compose_len {l : List S51} (hs : ∀ p ∈ l, smallP p) (w h : Int) : (composeF l w h).2.2.1.length ≤ 100000 ∧ (composeF l w h).2.2.2.1.length ≤ 100000 := by
  unfold composeF
  split
  · exact goes_len l _ _ _ _ hs (empty_len w h).1 (empty_len w h).2
  · simp
end Go.Proofs.Ytaebgjdaoloceaa.PureD
