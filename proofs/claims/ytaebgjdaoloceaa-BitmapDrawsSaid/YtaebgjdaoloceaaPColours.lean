/- A lemma file: the colours of pixels, canvases held against each other, of both sides. No condition. -/
import Derived.Test.YtaebgjdaoloceaaPSmall
import Derived.Test.YtaebgjdaoloceaaQBmpDx7
import Derived.Test.YtaebgjdaoloceaaQBmpDx7
import Derived.Test.YtaebgjdaoloceaaQBmpDx7
import Derived.Test.YtaebgjdaoloceaaQBmpDx3
namespace Go.Proofs.Ytaebgjdaoloceaa.PureD
open Go.RowKit Go.Proofs.Ytaebgjdaoloceaa.QBmpD Go.Proofs.YtaebgjdaoloceaaW.PrintWords Go.Proofs.YtaebgjdaoloceaaW.PrintMore Go.Proofs.YtaebgjdaoloceaaV Go.Proofs.Ytaebgjdaoloceaa.PureI
def colF (pal : List Int) (v : Int) : Int := if v < 0 then -1 else if v < (pal.length : Int) then rd pal v else 0
def coloursF (w h : Int) (pal px : List Int) : List Int × Int := if validF w h pal px = true then (px.map (colF pal), 0) else ([], 4)
theorem valid_px {w h : Int} {pal px : List Int} (v : validF w h pal px = true) : ∀ x ∈ px, -1 ≤ x ∧ x ≤ 15 := by
  unfold validF at v
  simp only [Bool.and_eq_true] at v
  intro x hx
  exact inB_iff.mp (List.all_eq_true.mp v.2.2.2.2.2 x hx)
theorem take_map {l t : List Int} {i : Nat} {x : Int} (e : l.drop i = x :: t) (f : Int → Int) : (l.take (i + 1)).map f = (l.take i).map f ++ [f x] := by
  have hi := (drop_at e).1
  have hx : l[i] = x := by
    have := (drop_at e).2.2 x
    rw [List.getD_eq_getElem?_getD, List.getElem?_eq_getElem hi] at this
    exact this
  rw [List.take_add_one, List.map_append, List.getElem?_eq_getElem hi, hx]; rfl
section
variable {w h : Int} {pal px : List Int}
theorem ev_colours' (hp : pal.length ≤ 1099511627776) (hx : px.length ≤ 1099511627776) : Ev (fun k => bitmap_Colours.f k w h pal px) (coloursF w h pal px) := by
  unfold bitmap_Colours.f coloursF
  refine Ev.bind (ev_sound (by omega) (by omega)) ?_
  cases hv : validF w h pal px with
  | false => exact Ev.now _
  | true =>
    simp only [if_true]
    have hb := valid_px hv
    refine Ev.list (l := px) (f := fun k i => bitmap_Colours.l0 k ((px.take i).map (colF pal)) px (px.length : Int) (i : Int) w h pal px) (fun _ _ => (px.map (colF pal), 0)) ?_ ?_
    · refine Ev.step (f := fun _ => some (px.map (colF pal), 0)) (fun k => ?_) (Ev.now _)
      rw [bitmap_Colours.l0, if_neg (by omega), List.take_length]
    · intro i x t e ih
      have hi := (drop_at e).1
      have ex := rd_drop e
      have hx1 := hb x (List.mem_of_mem_drop (by rw [e]; exact List.mem_cons_self))
      have hlen : ((px.take i).map (colF pal)).length < 17592186044416 := by rw [List.length_map, List.length_take]; omega
      rw [take_map e, ← w_next (by omega)] at ih
      refine Ev.step (fun k => ?_) ih
      rw [bitmap_Colours.l0, if_pos (by omega), if_pos (by omega), if_pos (by omega), ex]
      by_cases h1 : x = -1
      · rw [if_pos h1, if_pos hlen, show colF pal x = -1 by unfold colF; rw [if_pos (by omega)]]
      · rw [if_neg h1]
        by_cases h2 : x < (pal.length : Int)
        · rw [if_pos h2, if_pos (by omega), if_pos hlen, show colF pal x = rd pal x by unfold colF; rw [if_neg (by omega), if_pos h2]]
        · rw [if_neg h2, if_pos hlen, show colF pal x = 0 by unfold colF; rw [if_neg (by omega), if_neg h2]]
theorem ev_rcolours (hp : pal.length ≤ 1099511627776) (hx : px.length ≤ 1099511627776) : Ev (fun k => dioramaref19_Colours.f k w h pal px) (coloursF w h pal px) := by
  unfold dioramaref19_Colours.f coloursF
  refine Ev.bind (ev_valid (by omega) (by omega)) ?_
  cases hv : validF w h pal px with
  | false => exact Ev.now _
  | true =>
    simp only [if_true]
    have hb := valid_px hv
    refine Ev.list (l := px) (f := fun k i => dioramaref19_Colours.l0 k ((px.take i).map (colF pal)) (i : Int) w h pal px) (fun _ _ => (px.map (colF pal), 0)) ?_ ?_
    · refine Ev.step (f := fun _ => some (px.map (colF pal), 0)) (fun k => ?_) (Ev.now _)
      rw [dioramaref19_Colours.l0, if_neg (by omega), List.take_length]
    · intro i x t e ih
      have hi := (drop_at e).1
      have ex := rd_drop e
      have hx1 := hb x (List.mem_of_mem_drop (by rw [e]; exact List.mem_cons_self))
      have hlen : ((px.take i).map (colF pal)).length < 17592186044416 := by rw [List.length_map, List.length_take]; omega
      rw [take_map e, ← w_next (by omega)] at ih
      refine Ev.step (fun k => ?_) ih
      rw [dioramaref19_Colours.l0, if_pos (by omega), if_pos (by omega), ex]
      by_cases h1 : x < 0
      · rw [if_pos h1, if_pos hlen, show colF pal x = -1 by unfold colF; rw [if_pos h1]]
      · rw [if_neg h1]
        by_cases h2 : x < (pal.length : Int)
        · rw [if_pos h2, if_pos (by omega), if_pos hlen, show colF pal x = rd pal x by unfold colF; rw [if_neg h1, if_pos h2]]
        · rw [if_neg h2, if_pos hlen, show colF pal x = 0 by unfold colF; rw [if_neg h1, if_neg h2]]
theorem colours_len (hx : px.length ≤ 1099511627776) : (coloursF w h pal px).1.length ≤ 1099511627776 := by
  unfold coloursF
  split
  · simpa using hx
  · simp
end
theorem ev_equal {l u : List Int} (hl : l.length ≤ 1099511627776) : Ev (fun k => slices_Equal_int_int.f k l u) (decide (l = u)) := by
  unfold slices_Equal_int_int.f
  by_cases h : l.length = u.length
  · simp only [if_pos (show (l.length : Int) = (u.length : Int) by omega)]
    have e0 : decide (l = u) = decide (l.drop 0 = u.drop 0) := by simp
    rw [e0]
    refine Ev.list (l := l) (f := fun k i => slices_Equal_int_int.l0 k l u (l.length : Int) (i : Int)) (fun i t => decide (t = u.drop i)) ?_ ?_
    · have : u.drop l.length = [] := List.drop_eq_nil_of_le (by omega)
      rw [this]
      exact Ev.step (f := fun _ => some true) (fun k => by rw [slices_Equal_int_int.l0, if_neg (by omega)]) (Ev.now _)
    · intro i x t e ih
      have hi := (drop_at e).1
      have ex := rd_drop e
      have eu : u.drop i = u[i]'(by omega) :: u.drop (i + 1) := List.drop_eq_getElem_cons (by omega)
      have ey := rd_drop eu
      by_cases hxy : x = u[i]'(by omega)
      · have : decide (x :: t = u.drop i) = decide (t = u.drop (i + 1)) := by rw [eu, ← hxy]; simp
        rw [this]
        refine Ev.step (fun k => ?_) ih
        rw [slices_Equal_int_int.l0, if_pos (by omega), if_pos (by omega), if_pos (by omega), if_pos (by omega), ex, ey, if_pos hxy, w_next (by omega)]
      · have : decide (x :: t = u.drop i) = false := decide_eq_false (fun q => by rw [eu] at q; injection q with q1 _; exact hxy q1)
        rw [this]
        refine Ev.step (f := fun _ => some false) (fun k => ?_) (Ev.now _)
        rw [slices_Equal_int_int.l0, if_pos (by omega), if_pos (by omega), if_pos (by omega), if_pos (by omega), ex, ey, if_neg hxy]
  · simp only [if_neg (show ¬ (l.length : Int) = (u.length : Int) by omega)]
    have : decide (l = u) = false := decide_eq_false (fun e => h (by rw [e]))
    rw [this]
    exact Ev.now _
def sameF (a b : Int) (p x : List Int) (a' b' : Int) (p' x' : List Int) : Bool := decide (a = a') && (decide (b = b') && (decide (p = p') && decide (x = x')))
section
variable {a b a' b' : Int} {p x p' x' : List Int}
theorem ev_samec (h1 : p.length ≤ 1099511627776) (h2 : x.length ≤ 1099511627776) : Ev (fun k => bitmap_SameCanvas.f k a b p x a' b' p' x') (sameF a b p x a' b' p' x') := by
  unfold bitmap_SameCanvas.f sameF
  by_cases e1 : a = a'
  · by_cases e2 : b = b'
    · simp only [if_pos e1, if_pos e2, decide_eq_true e1, decide_eq_true e2, Bool.true_and]
      refine Ev.bind (ev_equal h1) ?_
      by_cases e3 : p = p'
      · simp only [decide_eq_true e3, if_true, Bool.true_and]
        exact Ev.bind (ev_equal h2) (Ev.now _)
      · simp only [decide_eq_false e3, Bool.false_and]; exact Ev.now _
    · simp only [if_pos e1, if_neg e2, decide_eq_false e2, Bool.false_and, Bool.and_false]; exact Ev.now _
  · simp only [if_neg e1, decide_eq_false e1, Bool.false_and]; exact Ev.now _
theorem ev_samel (h1 : p.length ≤ 1099511627776) (h2 : x.length ≤ 1099511627776) : Ev (fun k => dioramalaw19_same.f k a b p x a' b' p' x') (sameF a b p x a' b' p' x') := by
  unfold dioramalaw19_same.f sameF
  by_cases e1 : a = a'
  · by_cases e2 : b = b'
    · simp only [if_pos e1, if_pos e2, decide_eq_true e1, decide_eq_true e2, Bool.true_and]
      refine Ev.bind (eqi_ev (by omega)) ?_
      by_cases e3 : p = p'
      · simp only [decide_eq_true e3, if_true, Bool.true_and]
        exact Ev.bind (eqi_ev (by omega)) (Ev.now _)
      · simp only [decide_eq_false e3, Bool.false_and]; exact Ev.now _
    · simp only [if_pos e1, if_neg e2, decide_eq_false e2, Bool.false_and, Bool.and_false]; exact Ev.now _
  · simp only [if_neg e1, decide_eq_false e1, Bool.false_and]; exact Ev.now _
end
theorem ev_theirs {w h : Int} {pal px : List Int} (h1 : pal.length ≤ 1099511627776) (h2 : px.length ≤ 1099511627776) : Ev (fun k => dioramalaw19_theirs.f k w h pal px) (w, h, pal, px) := by
  unfold dioramalaw19_theirs.f
  exact Ev.bind (ev_copy h1) (Ev.bind (ev_copy h2) (Ev.now _))
end Go.Proofs.Ytaebgjdaoloceaa.PureD
