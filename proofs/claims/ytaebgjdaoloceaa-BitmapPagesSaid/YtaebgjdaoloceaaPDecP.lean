/- A lemma file: the page of bytes, as a function on lists; the program's Decode comes to it. No condition. -/
import Derived.Test.YtaebgjdaoloceaaPEvo
import Derived.Test.YtaebgjdaoloceaaPSumP
import Derived.Test.YtaebgjdaoloceaaPNumP
import Derived.Test.YtaebgjdaoloceaaPPix0P
import Derived.Test.YtaebgjdaoloceaaQBmpPx3
namespace Go.Proofs.Ytaebgjdaoloceaa.PureB
open Go.RowKit Go.Proofs.Ytaebgjdaoloceaa.QBmpP Go.Proofs.YtaebgjdaoloceaaW.PrintWords Go.Proofs.YtaebgjdaoloceaaV Go.Proofs.Ytaebgjdaoloceaa.Pure
def w2 (u : List Int) (i : Int) : Int := rd u i * 256 + rd u (i + 1)
def placeS (x y w h : Int) : Bool := inB x 0 999 && (inB y 0 999 && (inB w 1 64 && inB h 1 64))
def patS : Nat → List Int → List S91 → List S91 × List Int × Int
  | 0, u, acc => (acc, u, 0)
  | m + 1, u, acc => if u.length < 8 then ([], [], 3) else if placeS (w2 u 0) (w2 u 2) (rd u 4) (rd u 5) = true then (if u.length - 8 < (w2 u 6).toNat then ([], [], 3) else
      if (pixF ((u.drop 8).take (w2 u 6).toNat) (rd u 4) (rd u 5)).2 = 0 then patS m ((u.drop 8).drop (w2 u 6).toNat) (acc ++ [⟨w2 u 0, w2 u 2, rd u 4, rd u 5, (pixF ((u.drop 8).take (w2 u 6).toNat) (rd u 4) (rd u 5)).1⟩]) else ([], [], (pixF ((u.drop 8).take (w2 u 6).toNat) (rd u 4) (rd u 5)).2)) else ([], [], 1)
def endS (cl : Bool) (pal : List Int) (q : List S91 × List Int × Int) : Bool × List Int × List S91 × Int :=
  if q.2.2 = 0 then (if q.2.1.length > 0 then (false, [], [], 4) else (cl, pal, q.1, 0)) else (false, [], [], q.2.2)
def tailS (cl : Bool) (pal : List Int) : List Int → Bool × List Int × List S91 × Int
  | [] => (false, [], [], 3)
  | c :: t => if c > 8 then (false, [], [], 2) else endS cl pal (patS c.toNat t [])
def palS (cl : Bool) : Nat → List Int → List Int → Bool × List Int × List S91 × Int
  | 0, u, acc => tailS cl acc u
  | m + 1, u, acc => if u.length < 3 then (false, [], [], 3) else palS cl m (u.drop 3) (acc ++ [numS (u.take 3)])
def bodyS (B : List Int) : Bool × List Int × List S91 × Int :=
  if rd B 0 > 1 then (false, [], [], 4) else if rd B 1 > 16 then (false, [], [], 2) else palS (rd B 0 == 1) (rd B 1).toNat (B.drop 2) []
def decS (l : List Int) : Bool × List Int × List S91 × Int :=
  if l.length < 7 then (false, [], [], 3) else if numS (l.drop (l.length - 4)) = sumS (l.take (l.length - 4)) then bodyS (l.take (l.length - 4)) else (false, [], [], 6)
/-- Bytes. -/
def Bs (l : List Int) : Prop := ∀ y ∈ l, 0 ≤ y ∧ y ≤ 255
theorem Bs.take {l : List Int} (h : Bs l) (n : Nat) : Bs (l.take n) := fun y hy => h y (List.mem_of_mem_take hy)
theorem Bs.drop {l : List Int} (h : Bs l) (n : Nat) : Bs (l.drop n) := fun y hy => h y (List.mem_of_mem_drop hy)
theorem Bs.tk {l : List Int} (h : Bs l) (n : Nat) : Bs (tkL l n) := by
  unfold tkL
  split
  · intro y hy
    have := List.eq_of_mem_replicate hy
    omega
  · exact h.take n
theorem Bs.tr {l : List Int} (h : Bs l) (n : Nat) : Bs (tkR l n) := by
  unfold tkR
  split
  · intro y hy; cases hy
  · exact h.drop n
theorem Bs.rd {l : List Int} (h : Bs l) (i : Int) : 0 ≤ rd l i ∧ rd l i ≤ 255 := by
  unfold Go.Proofs.YtaebgjdaoloceaaW.PrintWords.rd
  rw [List.getD_eq_getElem?_getD]
  cases hq : l[i.toNat]? with
  | none => simp
  | some v => exact h v (List.mem_of_getElem? hq)
theorem pow4 {n : Nat} (h : n ≤ 4) : (256 : Int) ^ n ≤ 4294967296 := by
  have c : n = 0 ∨ n = 1 ∨ n = 2 ∨ n = 3 ∨ n = 4 := by omega
  rcases c with rfl | rfl | rfl | rfl | rfl <;> decide
theorem rd_ev {l : List Int} {e : Int} {n : Nat} (hb : Bs l) (h1 : 1 ≤ n) (h2 : n ≤ 4) : Ev (fun k => rdN k l e n) (numS (tkL l n), tkR l n, tkE l n e) := by
  unfold rdN
  have hl := tkL_length l n
  refine Ev.bind (int_ev (l := tkL l n) (a := 0) (n := (n : Int)) (by omega) (hb.tk n)) ?_
  have e1 : intS (tkL l n) 0 (n : Int) = (numS (tkL l n), 0) := by
    have hbd := numS_bound (tkL l n) (hb.tk n)
    rw [hl] at hbd
    have := pow4 h2
    unfold intS
    rw [if_neg (by omega), if_neg (by omega)]
    rw [show ((0 : Int) + (n : Int)).toNat = n by omega, show (0 : Int).toNat = 0 from rfl, List.drop_zero, List.take_of_length_le (by omega), if_neg (by omega)]
  rw [e1]
  exact Ev.now _
theorem numS_rd (a b c : Int) : numS [a] = a ∧ numS [a, b] = a * 256 + b ∧ numS [a, b, c] = (a * 256 + b) * 256 + c := by simp [numS]
/-- A patch's head, as the reader takes it. -/
def hdS (l : List Int) (e : Int) : Int × Int × Int × Int × Int × List Int × Int :=
  let x := (numS (tkL l 2), tkR l 2, tkE l 2 e)
  let y := (numS (tkL x.2.1 2), tkR x.2.1 2, tkE x.2.1 2 x.2.2)
  let w := (numS (tkL y.2.1 1), tkR y.2.1 1, tkE y.2.1 1 y.2.2)
  let h := (numS (tkL w.2.1 1), tkR w.2.1 1, tkE w.2.1 1 w.2.2)
  let n := (numS (tkL h.2.1 2), tkR h.2.1 2, tkE h.2.1 2 h.2.2)
  (x.1, y.1, w.1, h.1, n.1, n.2.1, n.2.2)
theorem hd_ev {l : List Int} {e : Int} (hb : Bs l) : Ev (fun k => hdF k l e) (hdS l e) :=
  Ev.bind (rd_ev hb (by omega) (by omega)) (Ev.bind (rd_ev (hb.tr 2) (by omega) (by omega)) (Ev.bind (rd_ev ((hb.tr 2).tr 2) (by omega) (by omega)) (Ev.bind (rd_ev (((hb.tr 2).tr 2).tr 1) (by omega) (by omega)) (Ev.bind (rd_ev ((((hb.tr 2).tr 2).tr 1).tr 1) (by omega) (by omega)) (Ev.now _)))))
theorem hdS_bad {l : List Int} (h : l.length < 8) : (hdS l 0).2.2.2.2.2.2 = 3 := by
  match l, h with
  | [], _ => rfl
  | [_], _ => rfl
  | [_, _], _ => rfl
  | [_, _, _], _ => rfl
  | [_, _, _, _], _ => rfl
  | [_, _, _, _, _], _ => rfl
  | [_, _, _, _, _, _], _ => rfl
  | [_, _, _, _, _, _, _], _ => rfl
  | _ :: _ :: _ :: _ :: _ :: _ :: _ :: _ :: t, h => simp at h; omega
theorem tk1L (a : Int) (s : List Int) : tkL (a :: s) 1 = [a] := by unfold tkL; rw [if_neg (by simp)]; rfl
theorem tk1R (a : Int) (s : List Int) : tkR (a :: s) 1 = s := by unfold tkR; rw [if_neg (by simp)]; rfl
theorem tk1E (a : Int) (s : List Int) (e : Int) : tkE (a :: s) 1 e = e := by unfold tkE; rw [if_neg (by simp)]
theorem tk2L (a b : Int) (s : List Int) : tkL (a :: b :: s) 2 = [a, b] := by unfold tkL; rw [if_neg (by simp)]; rfl
theorem tk2R (a b : Int) (s : List Int) : tkR (a :: b :: s) 2 = s := by unfold tkR; rw [if_neg (by simp)]; rfl
theorem tk2E (a b : Int) (s : List Int) (e : Int) : tkE (a :: b :: s) 2 e = e := by unfold tkE; rw [if_neg (by simp)]
theorem hdS_ok {l : List Int} (h : 8 ≤ l.length) : hdS l 0 = (w2 l 0, w2 l 2, rd l 4, rd l 5, w2 l 6, l.drop 8, 0) := by
  match l, h with
  | a :: b :: c :: d :: e :: f :: g :: i :: t, _ =>
    simp only [hdS, tk1L, tk1R, tk1E, tk2L, tk2R, tk2E]
    simp [numS, w2, rd]
  | [], h => simp at h
  | [_], h => simp at h
  | [_, _], h => simp at h
  | [_, _, _], h => simp at h
  | [_, _, _, _], h => simp at h
  | [_, _, _, _, _], h => simp at h
  | [_, _, _, _, _, _], h => simp at h
  | [_, _, _, _, _, _, _], h => simp at h
theorem place_f (x y w h : Int) : bitmap_place.f x y w h [] = some (placeS x y w h) := by
  unfold bitmap_place.f placeS inB
  rw [within_p, within_p, within_p, within_p]
  simp only [Option.bind_some]
  cases (decide (0 ≤ x) && decide (x ≤ 999)) <;> cases (decide (0 ≤ y) && decide (y ≤ 999)) <;> cases (decide (1 ≤ w) && decide (w ≤ 64)) <;> rfl
theorem w2_in {l : List Int} (hb : Bs l) (i : Int) : 0 ≤ w2 l i ∧ w2 l i ≤ 65535 := by
  have h1 := hb.rd i
  have h2 := hb.rd (i + 1)
  unfold w2
  omega
theorem pat_ev : ∀ (m : Nat) (l : List Int) (acc : List S91), Bs l → Ev (fun k => patF k m l 0 acc) (patS m l acc)
  | 0, _, _, _ => Ev.now _
  | m + 1, l, acc, hb => by
    show Ev (fun k => (hdF k l 0).bind fun x => _) _
    refine Ev.bind (hd_ev hb) ?_
    by_cases h8 : l.length < 8
    · rw [hdS_bad h8]
      simp only [if_neg (show ¬ (3 : Int) = 0 by decide)]
      rw [patS, if_pos h8]
      exact Ev.now _
    · rw [hdS_ok (by omega), patS, if_neg h8]
      simp only [if_true]
      refine Ev.bind (by rw [place_f]; exact Ev.now _) ?_
      cases hp : placeS (w2 l 0) (w2 l 2) (rd l 4) (rd l 5) with
      | false => simp only [Bool.false_eq_true, if_false]; exact Ev.now _
      | true =>
        have hw := w2_in hb 6
        simp only [if_true]
        simp only [if_neg (show ¬ ¬ (0 ≤ w2 l 6 ∧ w2 l 6 ≤ 65535) by simpa using hw)]
        by_cases hn : l.length - 8 < (w2 l 6).toNat
        · rw [if_pos hn]
          have e3 : tkE (l.drop 8) (w2 l 6).toNat 0 = 3 := by unfold tkE; rw [if_pos (by rw [List.length_drop]; exact hn)]
          simp only [e3, if_neg (show ¬ (3 : Int) = 0 by decide)]
          exact Ev.now _
        · rw [if_neg hn]
          have e3 : tkE (l.drop 8) (w2 l 6).toNat 0 = 0 := by unfold tkE; rw [if_neg (by rw [List.length_drop]; exact hn)]
          have e4 : tkL (l.drop 8) (w2 l 6).toNat = (l.drop 8).take (w2 l 6).toNat := by unfold tkL; rw [if_neg (by rw [List.length_drop]; exact hn)]
          have e5 : tkR (l.drop 8) (w2 l 6).toNat = (l.drop 8).drop (w2 l 6).toNat := by unfold tkR; rw [if_neg (by rw [List.length_drop]; exact hn)]
          simp only [e3, e4, e5, if_true]
          refine Ev.bind (ev_pix ((hb.drop 8).take _)) ?_
          by_cases hz : (pixF ((l.drop 8).take (w2 l 6).toNat) (rd l 4) (rd l 5)).2 = 0
          · simp only [if_pos hz]
            exact pat_ev m _ _ ((hb.drop 8).drop _)
          · simp only [if_neg hz]
            exact Ev.now _
/-- The palette, as the reader takes it. -/
def palG : Nat → List Int → Int → List Int → List Int × List Int × Int
  | 0, l, e, acc => (acc, l, e)
  | m + 1, l, e, acc => palG m (tkR l 3) (tkE l 3 e) (acc ++ [numS (tkL l 3)])
theorem palG_ev : ∀ (m : Nat) (l : List Int) (e : Int) (acc : List Int), Bs l → Ev (fun k => palF k m l e acc) (palG m l e acc)
  | 0, _, _, _, _ => Ev.now _
  | m + 1, l, e, acc, hb => Ev.bind (rd_ev hb (by omega) (by omega)) (palG_ev m _ _ _ (hb.tr 3))
theorem palG_dead : ∀ (m : Nat) (acc : List Int), (palG m [] 3 acc).2 = ([], 3)
  | 0, _ => rfl
  | m + 1, _ => palG_dead m _
/-- What stands behind the palette, on the program's side. -/
theorem tail_ev {cl : Bool} {b : Int} {u acc : List Int} (hb : Bs u) (hcl : (b == 1) = cl) :
    Ev (fun k => (rdN k u 0 1).bind fun c => if c.2.2 = 0 then (if c.1 > 8 then some (false, [], [], 2) else (patF k c.1.toNat c.2.1 c.2.2 []).bind fun q => if q.2.2 = 0 then (if q.2.1.length > 0 then some (false, [], [], 4) else some (b == 1, acc, q.1, 0)) else some (false, [], [], q.2.2)) else some (false, [], [], c.2.2)) (tailS cl acc u) := by
  subst hcl
  refine Ev.bind (rd_ev hb (by omega) (by omega)) ?_
  match u, hb with
  | [], _ => exact Ev.now _
  | c :: t, hb =>
    have e1 : tkE (c :: t) 1 0 = 0 := by unfold tkE; rw [if_neg (by simp)]
    have e2 : tkL (c :: t) 1 = [c] := by unfold tkL; rw [if_neg (by simp)]; rfl
    have e3 : tkR (c :: t) 1 = t := by unfold tkR; rw [if_neg (by simp)]; rfl
    simp only [e1, e2, e3, if_true, (numS_rd c 0 0).1, tailS]
    by_cases h8 : c > 8
    · simp only [if_pos h8]; exact Ev.now _
    · simp only [if_neg h8]
      refine Ev.bind (pat_ev c.toNat t [] (fun y hy => hb y (by simp [hy]))) ?_
      unfold endS
      by_cases hq : (patS c.toNat t []).2.2 = 0
      · simp only [if_pos hq]
        by_cases hl : (patS c.toNat t []).2.1.length > 0
        · simp only [if_pos hl]; exact Ev.now _
        · simp only [if_neg hl]; exact Ev.now _
      · simp only [if_neg hq]; exact Ev.now _
theorem palS_ev {cl : Bool} {b : Int} (hcl : (b == 1) = cl) : ∀ (m : Nat) (u acc : List Int), Bs u →
    Ev (fun k => (palF k m u 0 acc).bind fun p => (rdN k p.2.1 p.2.2 1).bind fun c => if c.2.2 = 0 then (if c.1 > 8 then some (false, [], [], 2) else (patF k c.1.toNat c.2.1 c.2.2 []).bind fun q => if q.2.2 = 0 then (if q.2.1.length > 0 then some (false, [], [], 4) else some (b == 1, p.1, q.1, 0)) else some (false, [], [], q.2.2)) else some (false, [], [], c.2.2)) (palS cl m u acc)
  | 0, u, acc, hb => by
    rw [palS]
    exact Ev.bind (Ev.now (acc, u, 0)) (tail_ev hb hcl)
  | m + 1, u, acc, hb => by
    by_cases h3 : u.length < 3
    · refine Ev.bind (palG_ev (m + 1) u 0 acc hb) ?_
      have e1 : palG (m + 1) u 0 acc = palG m [] 3 (acc ++ [numS (tkL u 3)]) := by
        rw [palG, show tkR u 3 = [] from if_pos h3, show tkE u 3 0 = 3 from if_pos h3]
      have e2 := palG_dead m (acc ++ [numS (tkL u 3)])
      rw [← e1] at e2
      rw [palS, if_pos h3]
      simp only [e2]
      refine Ev.bind (rd_ev (l := []) (fun y hy => by cases hy) (by omega) (by omega)) ?_
      exact Ev.now _
    · have ih := palS_ev hcl m (u.drop 3) (acc ++ [numS (u.take 3)]) (hb.drop 3)
      rw [palS, if_neg h3]
      have e1 : ∀ k, palF k (m + 1) u 0 acc = (rdN k u 0 3).bind fun v => palF k m v.2.1 v.2.2 (acc ++ [v.1]) := fun k => rfl
      simp only [e1, Option.bind_assoc]
      refine Ev.bind (rd_ev hb (by omega) (by omega)) ?_
      simp only [show tkE u 3 0 = 0 from if_neg h3, show tkL u 3 = u.take 3 from if_neg h3, show tkR u 3 = u.drop 3 from if_neg h3]
      exact ih
theorem take_drop_end {l : List Int} (h : 4 ≤ l.length) : ((l.take (((l.length - 4 : Nat) : Int) + 4).toNat).drop ((l.length - 4 : Nat) : Int).toNat) = l.drop (l.length - 4) := by
  rw [show (((l.length - 4 : Nat) : Int) + 4).toNat = l.length by omega, List.take_length, Int.toNat_natCast]
theorem intS_end {l : List Int} (hb : Bs l) (h : 7 ≤ l.length) : intS l ((l.length - 4 : Nat) : Int) 4 = (numS (l.drop (l.length - 4)), 0) := by
  unfold intS
  rw [if_neg (by omega), if_neg (by omega), take_drop_end (by omega)]
  have hbd := numS_bound (l.drop (l.length - 4)) (hb.drop _)
  rw [List.length_drop, show l.length - (l.length - 4) = 4 by omega] at hbd
  have := pow4 (n := 4) (by omega)
  rw [if_neg (by omega)]
theorem sumS_in {l : List Int} (hb : Bs l) : 0 ≤ sumS l ∧ sumS l ≤ 4294967295 := by
  unfold sumS
  have h := crc_lt l (s := 4294967295) (by decide) hb
  have h2 := xor_lt32 h (b := 4294967295) (by decide)
  omega
/-- The program's Decode. -/
theorem dec_ev {l : List Int} (hb : Bs l) (hl : l.length ≤ 9223372036854775807) : Ev (fun k => bitmap_Decode.f k l) (decS l) := by
  unfold bitmap_Decode.f decS
  by_cases h7 : l.length < 7
  · simp only [if_pos h7]; exact Ev.now _
  · simp only [if_neg h7]
    obtain ⟨B, hB⟩ : ∃ B, B = l.take (l.length - 4) := ⟨_, rfl⟩
    have hBl : B.length = l.length - 4 := by rw [hB, List.length_take]; omega
    have hBb : Bs B := by rw [hB]; exact hb.take _
    refine Ev.bind (int_ev hl hb) ?_
    rw [intS_end hb (by omega)]
    rw [← hB]
    refine Ev.bind (sum_ev (by omega) hBb) ?_
    have hs := sumS_in hBb
    rw [w64 (x := sumS B) (by omega) (by omega)]
    by_cases hq : numS (l.drop (l.length - 4)) = sumS B
    · simp only [if_pos hq]
      refine Ev.bind (rd_ev hBb (by omega) (by omega)) ?_
      match B, hBl, hBb with
      | [], h, _ => simp at h; omega
      | [_], h, _ => simp at h; omega
      | a :: b :: t, _, hBb =>
        have e1 : tkE (a :: b :: t) 1 0 = 0 := by unfold tkE; rw [if_neg (by simp)]
        have e2 : tkL (a :: b :: t) 1 = [a] := by unfold tkL; rw [if_neg (by simp)]; rfl
        have e3 : tkR (a :: b :: t) 1 = b :: t := by unfold tkR; rw [if_neg (by simp)]; rfl
        simp only [e1, e2, e3, (numS_rd a 0 0).1, bodyS, show rd (a :: b :: t) 0 = a from rfl, show rd (a :: b :: t) 1 = b from rfl]
        by_cases h1 : a > 1
        · simp only [if_pos h1]; exact Ev.now _
        · simp only [if_neg h1]
          refine Ev.bind (rd_ev (fun y hy => hBb y (List.mem_cons_of_mem _ hy)) (by omega) (by omega)) ?_
          have e1 : tkE (b :: t) 1 0 = 0 := by unfold tkE; rw [if_neg (by simp)]
          have e2 : tkL (b :: t) 1 = [b] := by unfold tkL; rw [if_neg (by simp)]; rfl
          have e3 : tkR (b :: t) 1 = t := by unfold tkR; rw [if_neg (by simp)]; rfl
          simp only [e1, e2, e3, (numS_rd b 0 0).1]
          by_cases h16 : b > 16
          · simp only [if_pos h16]; exact Ev.now _
          · simp only [if_neg h16]
            exact palS_ev rfl b.toNat t [] (fun y hy => hBb y (by simp [hy]))
    · simp only [if_neg hq]; exact Ev.now _
end Go.Proofs.Ytaebgjdaoloceaa.PureB
