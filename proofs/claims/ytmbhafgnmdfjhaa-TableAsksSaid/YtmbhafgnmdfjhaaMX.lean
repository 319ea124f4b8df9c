/- A lemma file: dioramaref09.or, walked by hand (what it gives back may be the second list itself, which the caller still reads). No condition. A lemma file: dioramaref09.expand, walked. No condition. A lemma file: dioramaref09.Expand, walked, given what expand does. No condition. A lemma file: both Expands, in the form of the printed functions. No condition. -/
import Derived.Test.YtmbhafgnmdfjhaaMR
import Derived.Test.YtmbhafgnmdfjhaaQTabx11
import Derived.Test.YtmbhafgnmdfjhaaME
import Derived.Deep.RegionHeld3
namespace Go.Proofs.Ytmbhafgnmdfjhaa.QTab
open Go.RowKit Go.Proofs.YtmbhafgnmdfjhaaW.PrintWords Go.Proofs.YtmbhafgnmdfjhaaW.PrintLast Go.Proofs.YtmbhafgnmdfjhaaW.PrintMore Go.Proofs.YtmbhafgnmdfjhaaV
set_option linter.unusedVariables false
set_option linter.unusedSimpArgs false
set_option maxRecDepth 100000 in
set_option maxHeartbeats 1000000 in
theorem or_nil {w : World} (A : Option Addr) (c : Nat) (B : Option Addr) (n e : Nat) :
    Calls Try.prog 97 #[.slice A 0 c, .slice B n e] w fun x w' => x = .returned (.slice B n e) ∧ Below w.heap.size w w' := by
  go_enter Try.func97, Try.ntmps97
  go_wp2_with fail
  go_ret
  exact ⟨rfl, Below.refl _ _⟩
set_option maxRecDepth 100000 in
set_option maxHeartbeats 1000000 in
theorem or_some {w : World} (k : Nat) (A : Option Addr) (c : Nat) (l : List S83) (hr : Kd.C k83 w A l.length l) (hc : l.length ≤ c) (hp : 0 < l.length) (r : List Int) (h : dioramaref09_values.f k l = some r) (B : Option Addr) (n e : Nat) :
    Calls Try.prog 97 #[.slice A l.length c, .slice B n e] w fun x w' => ∃ v, x = .returned v ∧ Kd.R (Kd.int .i64) 3 w' w.heap.size (fun _ => True) v r ∧ Below w.heap.size w w' := by
  have HR := Aside0.mk hr
  have HC := Aside0.mk hc
  have HH := Aside0.mk h
  have h1 : decide (0 < l.length) = true := decide_eq_true hp
  have h2 : (0 < l.length) = True := eq_true hp
  have h3 : decide ((0 : Int) < (l.length : Int)) = true := decide_eq_true (by omega)
  clear hr hc h
  go_enter Try.func97, Try.ntmps97
  go_wp2_with fail
  refine (dioramaref09_values.calls k A c l r _ HR.out HC.out HH.out).mono ?_
  rintro e w2 ⟨v, rfl, hv, hb⟩
  have HV := Aside0.mk hv
  have HB := Aside0.mk hb
  clear hv hb
  go_wp2_with fail
  go_ret
  exact ⟨v, rfl, HV.out, HB.out⟩
end Go.Proofs.Ytmbhafgnmdfjhaa.QTab
namespace Go.Proofs.Ytmbhafgnmdfjhaa.QTab
open Go.Proofs.Ytmbhafgnmdfjhaa.PureT Go.RowKit Go.Proofs.YtmbhafgnmdfjhaaW.PrintWords Go.Proofs.YtmbhafgnmdfjhaaW.PrintLast Go.Proofs.YtmbhafgnmdfjhaaW.PrintMore Go.Proofs.YtmbhafgnmdfjhaaV
set_option linter.unusedVariables false
set_option linter.unusedSimpArgs false
def orF (l : List S83) (other : List Int) : List Int := if 0 < l.length then valG l else other
theorem or_any {w : World} (k : Nat) (A : Option Addr) (c : Nat) (l : List S83) (hr : Kd.C k83 w A l.length l) (hc : l.length ≤ c) (h : 0 < l.length → dioramaref09_values.f k l = some (valG l)) (B : Option Addr) (e : Nat) (other : List Int) (hB : Kd.C (Kd.int .i64) w B other.length other) (he : other.length ≤ e) :
    Calls Try.prog 97 #[.slice A l.length c, .slice B other.length e] w fun x w' => ∃ A' c', x = .returned (.slice A' (orF l other).length c') ∧ (orF l other).length ≤ c' ∧ Kd.C (Kd.int .i64) w' A' (orF l other).length (orF l other) ∧ Below w.heap.size w w' := by
  by_cases hp : 0 < l.length
  · refine (or_some k A c l hr hc hp (valG l) (h hp) B other.length e).mono ?_
    rintro x w' ⟨v, rfl, hv, hb⟩
    obtain ⟨A', c', rfl⟩ := Kd.R_slice hv
    have e : orF l other = valG l := if_pos hp
    rw [e]
    have h2 := Kd.R_reads' hv
    exact ⟨A', c', rfl, h2.2.1, h2.2.2, hb⟩
  · have e : orF l other = other := if_neg hp
    have hl : l.length = 0 := by omega
    rw [e, hl]
    refine (or_nil A c B other.length _).mono ?_
    rintro x w' ⟨rfl, hb⟩
    exact ⟨B, _, rfl, he, Kd.C_below hB hb, hb⟩
structure RExpOk (k : Nat) (t : S27) (hv : Nat → Int) : Prop where
  c : dioramaref09_Count.f k t.f0 t.f1 t.f2 t.f3 t.f4 t.f5 t.f6 t.f7 t.f8 t.f9 t.f10 = some (tmN t : Int)
  v1 : dioramaref09_values.f k t.f1 = some (valG t.f1)
  v2 : 0 < t.f2.length → dioramaref09_values.f k t.f2 = some (valG t.f2)
  v9 : 0 < t.f9.length → dioramaref09_values.f k t.f9 = some (valG t.f9)
  b : ∀ i : Nat, i < tmN t → dioramaref00_HasInt.f k t.f3 ((i : Int) + 1) = some (hv i) ∧ decide (0 ≤ hv i) = fndF t i
def offR (t : S27) : List Int := orF t.f2 (List.replicate (tmN t) 0)
def durR (t : S27) : List Int := orF t.f9 (valG t.f1)
theorem dts_wrap {t : S27} (G : GoodT t) (i : Nat) : wrap64 (dtsAt t.f0 (valG t.f1) i) = dtsAt t.f0 (valG t.f1) i := by
  by_cases hi : i < (valG t.f1).length
  · cases i with
    | zero => show wrap64 t.f0 = t.f0; have := G.f0; unfold wrap64; omega
    | succ i => rw [dtsAt_next (by omega)]; unfold wrap64; omega
  · unfold dtsAt
    rw [List.take_of_length_le (by omega)]
    have : ∀ (l : List Int) (a : Int), wrap64 a = a → wrap64 (l.foldl (fun a d => wrap64 (a + d)) a) = l.foldl (fun a d => wrap64 (a + d)) a := by
      intro l
      induction l with
      | nil => intro a h; exact h
      | cons x l ih => intro a h; rw [List.foldl_cons]; exact ih _ (by unfold wrap64; omega)
    exact this _ _ (by have := G.f0; unfold wrap64; omega)
theorem pts_eq {t : S27} (G : GoodT t) {i : Nat} (hi : i < tmN t) : wrap64 (dtsAt t.f0 (valG t.f1) i + rd (offR t) i) = ptsF t i := by
  unfold ptsF offR orF
  by_cases h2 : 0 < t.f2.length
  · rw [if_pos h2, if_pos (by rw [(G.o h2).1]; omega)]
  · rw [if_neg h2, valG_nil h2, if_neg (by simp)]
    have : rd (List.replicate (tmN t) (0 : Int)) (i : Int) = 0 := by
      show (List.replicate (tmN t) (0 : Int)).getD (i : Int).toNat 0 = 0
      simp only [List.getD_eq_getElem?_getD, List.getElem?_replicate]
      split <;> rfl
    rw [this, Int.add_zero, dts_wrap G]
theorem dur_eq {t : S27} (G : GoodT t) {i : Nat} (hi : i < tmN t) : rd (durR t) i = durF t i := by
  unfold durF durR orF
  by_cases h2 : 0 < t.f9.length
  · rw [if_pos h2, if_pos (by rw [(G.d h2).1]; omega)]
  · rw [if_neg h2, valG_nil h2, if_neg (by simp)]
theorem offR_len {t : S27} (G : GoodT t) : (offR t).length = tmN t := by
  unfold offR orF
  split
  · rename_i h; exact (G.o h).1
  · simp
theorem durR_len {t : S27} (G : GoodT t) : (durR t).length = tmN t := by
  unfold durR orF
  split
  · rename_i h; exact (G.d h).1
  · rfl
theorem chunkR_msL {t : S27} (G : GoodT t) : chunkR t = msL t := chunkR_ok G.ok
theorem entsR_next (t : S27) (i : Nat) : (List.range (i + 1)).map (entR t) = (List.range i).map (entR t) ++ [entR t i] := by
  rw [List.range_succ, List.map_append]; rfl
/-- Where the loop over the samples stands: c chunks are opened, the last one from sample a on. -/
structure AtS (t : S27) (i c : Nat) (chunk left place : Int) : Prop where
  le : c ≤ t.f8.length
  ch : chunk = (c : Int) - 1
  lf : left = preL (msL t) c - i
  nn : 0 ≤ left
  op : (c = 0 ∧ i = 0) ∨ (0 < c ∧ preL (msL t) (c - 1) ≤ i ∧ place = plW t (rd t.f8 ((c - 1 : Nat) : Int)) (preL (msL t) (c - 1)).toNat (i - (preL (msL t) (c - 1)).toNat))
theorem AtS.open' {t : S27} (G : GoodT t) {i c : Nat} {chunk left place : Int} (h : AtS t i c chunk left place) (hi : i < tmN t) (h0 : left = 0) : c < t.f8.length ∧ AtS t i (c + 1) (c : Int) (rd (msL t) c) (rd t.f8 c) := by
  have hnn : ∀ x ∈ msL t, 0 ≤ x := fun x hx => (G.ms x hx).1
  have hl := h.lf
  have hc : c < t.f8.length := by
    by_cases hc : c = t.f8.length
    · rw [hc, ← msL_len t, preL_all, G.sum] at hl
      omega
    · have := h.le; omega
  have hn := preL_next (L := msL t) (c := c) (by rw [msL_len]; exact hc)
  refine ⟨hc, by omega, by omega, by omega, hnn _ (rd_mem (by rw [msL_len]; exact hc)), .inr ⟨by omega, by show preL (msL t) c ≤ i; omega, ?_⟩⟩
  show rd t.f8 (c : Int) = plW t (rd t.f8 (c : Int)) (preL (msL t) c).toNat (i - (preL (msL t) c).toNat)
  rw [show i - (preL (msL t) c).toNat = 0 by omega]
  rfl
theorem AtS.ent {t : S27} (G : GoodT t) {i c : Nat} {chunk left place : Int} (h : AtS t i c chunk left place) (h0 : left ≠ 0) : chunk = (ckOf (msL t) i : Int) ∧ place = plAt t (msL t) i := by
  have hnn : ∀ x ∈ msL t, 0 ≤ x := fun x hx => (G.ms x hx).1
  have hl := h.lf
  have h1 := h.nn
  have h2 := h.le
  rcases h.op with ⟨rfl, hi⟩ | ⟨hc, hp, hq⟩
  · rw [preL_zero] at hl; omega
  · have e := ck_of (L := msL t) (c := c - 1) (i := (i : Int)) hnn (by rw [msL_len]; omega) hp (by rw [show c - 1 + 1 = c by omega]; omega)
    exact ⟨by rw [e]; have := h.ch; omega, by rw [hq, plAt, e]⟩
theorem AtS.next {t : S27} (G : GoodT t) {i c : Nat} {chunk left place : Int} (h : AtS t i c chunk left place) (h0 : left ≠ 0) : AtS t (i + 1) c chunk (left - 1) (wrap64 (place + szF t i)) := by
  have hnn : ∀ x ∈ msL t, 0 ≤ x := fun x hx => (G.ms x hx).1
  have hl := h.lf
  have h1 := h.nn
  refine ⟨h.le, h.ch, by omega, by omega, ?_⟩
  rcases h.op with ⟨rfl, hi⟩ | ⟨hc, hp, hq⟩
  · rw [preL_zero] at hl; omega
  · have := preL_nn hnn (c - 1)
    refine .inr ⟨hc, by omega, ?_⟩
    rw [show i + 1 - (preL (msL t) (c - 1)).toNat = (i - (preL (msL t) (c - 1)).toNat) + 1 by omega, plW, ← hq, show (preL (msL t) (c - 1)).toNat + (i - (preL (msL t) (c - 1)).toNat) = i by omega]
theorem AtS.start (t : S27) : AtS t 0 0 (-1) 0 0 := ⟨Nat.zero_le _, rfl, rfl, Int.le_refl _, .inl ⟨rfl, rfl⟩⟩
def cellsE (x : S51) (v : Value) : Array Value := #[.int .i64 x.f0, .int .i64 x.f1, .int .i64 x.f2, .int .i64 x.f3, .int .i64 x.f4, .int .i64 x.f5, .bool x.f6, v]
/-- A variable that holds an entry, made behind the world w0; its list lies behind it. -/
structure XS (w0 w : World) (gx : Nat) (x : S51) (v : Value) : Prop where
  k : w.heap[gx]? = some (.cells (cellsE x v) 51 (0, 0))
  b : Below w0.heap.size w0 w
  ge : w0.heap.size ≤ gx
  r : (Kd.int .i64).R 3 w (gx + 1) (fun k => gx < k) v x.f7
section
variable {w0 w w1 : World} {gx : Nat} {x x' : S51} {v v' : Value}
theorem XS.cells (h : XS w0 w gx x v) : w.cell? ⟨gx, 0, none⟩ = some (.int .i64 x.f0) ∧ w.cell? ⟨gx, 1, none⟩ = some (.int .i64 x.f1) ∧ w.cell? ⟨gx, 2, none⟩ = some (.int .i64 x.f2) ∧ w.cell? ⟨gx, 3, none⟩ = some (.int .i64 x.f3) ∧ w.cell? ⟨gx, 4, none⟩ = some (.int .i64 x.f4) ∧ w.cell? ⟨gx, 5, none⟩ = some (.int .i64 x.f5) ∧ w.cell? ⟨gx, 6, none⟩ = some (.bool x.f6) ∧ w.cell? ⟨gx, 7, none⟩ = some v ∧ w.frozen? ⟨gx, 3, none⟩ = false ∧ w.frozen? ⟨gx, 6, none⟩ = false ∧ w.frozen? ⟨gx, 7, none⟩ = false :=
  ⟨(blk_cell h.k 0).trans rfl, (blk_cell h.k 1).trans rfl, (blk_cell h.k 2).trans rfl, (blk_cell h.k 3).trans rfl, (blk_cell h.k 4).trans rfl, (blk_cell h.k 5).trans rfl, (blk_cell h.k 6).trans rfl, (blk_cell h.k 7).trans rfl, blk_frozen h.k 3, blk_frozen h.k 6, blk_frozen h.k 7⟩
theorem XS.below (h : XS w0 w gx x v) (hb : Below w.heap.size w w1) : XS w0 w1 gx x v := ⟨blk_below h.k hb, below_step h.b hb, h.ge, Kd.R_below h.r hb⟩
theorem XS.drew (h : XS w0 w gx x v) : XS w0 w.drew gx x v := h.below (below_drew (Below.refl _ _))
theorem XS.drewN (h : XS w0 w gx x v) (m : Nat) : XS w0 (w.drewN m) gx x v := h.below (pw_below_drewN (Below.refl _ _) m)
theorem XS.put (h : XS w0 w gx x v) (j : Nat) (u : Value) (x' : S51) (e : (cellsE x v).setIfInBounds j u = cellsE x' v) (h7 : x'.f7 = x.f7) : XS w0 (w.setCell ⟨gx, j, none⟩ u) gx x' v :=
  ⟨blk_put h.k j u e, below_set h.b h.ge, h.ge, by rw [h7]; exact Kd.R_far (p := ⟨gx, j, none⟩) h.r (fun k hk => by show k ≠ gx; omega) u⟩
theorem XS.ne (h : XS w0 w gx x v) : some gx ≠ v.ownBlock := fun e => by have := Kd.R_base h.r gx e.symm; omega
theorem XS.after (h : XS w0 w gx x v) (hg : w.grownBy w1 v.ownBlock) : w1.cell? ⟨gx, 7, none⟩ = some v ∧ w1.frozen? ⟨gx, 7, none⟩ = false := by
  have hk := blk_grown h.k hg h.ne
  exact ⟨(blk_cell hk 7).trans rfl, blk_frozen hk 7⟩
theorem XS.appended (h : XS w0 w gx x v) (hg : w.grownBy w1 v.ownBlock) {ys : List Int} (hr : (Kd.int .i64).R 3 w1 (gx + 1) (fun k => gx < k) v' ys) : XS w0 (w1.setCell ⟨gx, 7, none⟩ v') gx { x with f7 := ys } v' :=
  ⟨blk_put (blk_grown h.k hg h.ne) 7 v' rfl, below_set (pw_below_grown h.b v.ownBlock h.b.size hg (fun k hk => by have := Kd.R_base h.r k hk; have := h.ge; omega)) h.ge, h.ge, Kd.R_far (p := ⟨gx, 7, none⟩) hr (fun k hk => by show k ≠ gx; omega) v'⟩
end
theorem infoRE : (Try.prog.info? 51).map (fun i => (i.zero, i.size, i.bytes)) = some (some (.agg #[.int .i64 0, .int .i64 0, .int .i64 0, .int .i64 0, .int .i64 0, .int .i64 0, .bool false, .slice none 0 0]), 8, 80) := by kernel_rfl
set_option maxRecDepth 100000 in
set_option maxHeartbeats 4000000 in
theorem rexpand_calls {w : World} (k : Nat) (t : S27) (d : D27) (hr : R27 w t d) (hv : Nat → Int) (h : RExpOk k t hv) (G : GoodT t) (hl8 : t.f8.length ≤ 1000) :
    Calls Try.prog 71 #[.agg (cells27 t d)] w fun e w' => ∃ v, e = .returned v ∧ Kd.S k51 51 w' w.heap.size (fun _ => True) v (entsR t) ∧ Below w.heap.size w w' := by
  have HR := Aside0.mk hr
  have H := Aside0.mk h
  have HG := Aside0.mk G
  have H8 := Aside0.mk hl8
  clear hr h G hl8
  have hu := Try.underlying27
  have hu51 := Try.underlying51
  unfold cells27
  go_enter Try.func71, Try.ntmps71
  obtain ⟨w1, hw1⟩ : ∃ wz, w.alloc (.cells (cells27 t d) 27) = wz := ⟨_, rfl⟩
  obtain ⟨g, hg⟩ : ∃ rz, w.heap.size = rz := ⟨_, rfl⟩
  have B1 : Aside0 (Below w.heap.size w w1) := ⟨by rw [← hw1]; exact below_alloc (Below.refl _ _) _⟩
  have K1 : Aside0 (Box27 w1 g t d) := ⟨by rw [← hw1, ← hg]; exact blk_new w _⟩
  have GE : Aside0 (w.heap.size ≤ g) := ⟨by omega⟩
  unfold cells27 at hw1
  obtain ⟨q0, q1, q2, q3, q4, q5, q6, q7, q8, q9, q10⟩ := K1.out.cells
  go_wp2_with fail
  clear hw1 hg
  have RR := HR.out.below B1.out
  refine (dioramaref09_Count.calls k t.f0 d.A1 d.c1 t.f1 d.A2 d.c2 t.f2 d.A3 d.c3 t.f3 t.f4 t.f5 d.A6 d.c6 t.f6 d.A7 d.c7 t.f7 d.A8 d.c8 t.f8 d.A9 d.c9 t.f9 d.A10 d.c10 t.f10 (tmN t : Int) w1 RR.r1 RR.c1 RR.r2 RR.c2 RR.r3 RR.c3 RR.r6 RR.c6 RR.r7 RR.c7 RR.r8 RR.c8 RR.r9 RR.c9 RR.r10 RR.c10 H.out.c).mono ?_
  rintro e w2 ⟨rfl, hb⟩
  have S2 : Aside0 (St4 w w2 g t d) := ⟨⟨below_step B1.out hb, K1.out.below hb, RR.below hb⟩⟩
  clear hb RR B1 K1
  clear q0 q1 q2 q3 q4 q5 q6 q7 q8 q9 q10
  obtain ⟨q0, q1, q2, q3, q4, q5, q6, q7, q8, q9, q10⟩ := S2.out.k.cells
  go_wp2_with fail
  refine (dioramaref09_values.calls k d.A1 d.c1 t.f1 (valG t.f1) w2 S2.out.r.r1 S2.out.r.c1 H.out.v1).mono ?_
  rintro e w3 ⟨v4, rfl, hv4, hb⟩
  have S3 := Aside0.mk (S2.out.step hb)
  obtain ⟨A4, c4, rfl⟩ := Kd.R_slice hv4
  have Q4 := Aside0.mk (Kd.R_reads' hv4)
  clear hb S2 hv4
  clear q0 q1 q2 q3 q4 q5 q6 q7 q8 q9 q10
  go_wp2_with fail
  obtain ⟨N, hN⟩ : ∃ N : Nat, tmN t = N := ⟨_, rfl⟩
  have HNN := Aside0.mk hN
  rw [hN]
  have hn0 : decide ((0 : Int) ≤ (N : Int)) = true := decide_eq_true (by omega)
  have hn1 : ((N : Int)).toNat = N := Int.toNat_natCast N
  have hn4 : N ≤ 400 := by rw [← hN]; exact HG.out.n
  have HN4 := Aside0.mk hn4
  clear hN
  have S3b := Aside0.mk (S3.out.step (below_drew (Below.refl _ _)))
  have Q4b := Aside0.mk (Kd.C_below Q4.out.2.2 (below_drew (Below.refl _ _)))
  clear S3
  refine start_ (n := 6) (S := fun w' => w'.cell? ⟨g, 0, none⟩ = some (.int .i64 t.f0) ∧ w'.cell? ⟨g, 1, none⟩ = some (.slice d.A1 t.f1.length d.c1) ∧ w'.cell? ⟨g, 2, none⟩ = some (.slice d.A2 t.f2.length d.c2) ∧ w'.cell? ⟨g, 3, none⟩ = some (.slice d.A3 t.f3.length d.c3) ∧ w'.cell? ⟨g, 4, none⟩ = some (.bool t.f4) ∧ w'.cell? ⟨g, 5, none⟩ = some (.int .i64 t.f5) ∧ w'.cell? ⟨g, 6, none⟩ = some (.slice d.A6 t.f6.length d.c6) ∧ w'.cell? ⟨g, 7, none⟩ = some (.slice d.A7 t.f7.length d.c7) ∧ w'.cell? ⟨g, 8, none⟩ = some (.slice d.A8 t.f8.length d.c8) ∧ w'.cell? ⟨g, 9, none⟩ = some (.slice d.A9 t.f9.length d.c9) ∧ w'.cell? ⟨g, 10, none⟩ = some (.slice d.A10 t.f10.length d.c10)) (ds := []) #[false, false, false, false, false, false] (by kernel_rfl) rfl rfl S3b.out.k.cells (fun hHeld => ?_)
  generalize w3.drew = w4 at S3b Q4b hHeld ⊢
  refine pure_ (i := 0) (N := some 22) (v := ?_) (a' := ?_) #[true, false, false, false, false, false] rfl rfl (by kernel_rfl) (fun _ _ _ h => h) (Or.inl ⟨by rfl, ?_⟩) ?_ ?_; rotate_left
  · intro w'; go_simp; with_reducible rfl
  rotate_left
  · simp only [Act.put, List.setIfInBounds_toArray, List.set_cons_zero, List.set_cons_succ]; rfl
  refine pure_ (i := 2) (N := some 24) (v := ?_) (a' := ?_) #[true, false, true, false, false, false] rfl rfl (by kernel_rfl) (fun _ _ _ h => h) (Or.inl ⟨by rfl, ?_⟩) ?_ ?_; rotate_left
  · intro w'; go_simp; with_reducible rfl
  rotate_left
  · simp only [Act.put, List.setIfInBounds_toArray, List.set_cons_zero, List.set_cons_succ]; rfl
  refine take_ (i := 1) (N := some 23) (v := ?_) (a' := ?_) #[true, true, true, false, false, false] rfl rfl (by kernel_rfl) (fun _ _ _ h => h) (Or.inl ⟨by rfl, ?_⟩) hHeld ?_ ?_; rotate_left
  · rintro w' ⟨s0, s1, s2, s3, s4, s5, s6, s7, s8, s9, s10⟩
    go_simp; with_reducible rfl
  rotate_left
  · simp only [Act.put, List.setIfInBounds_toArray, List.set_cons_zero, List.set_cons_succ]; rfl
  refine one_ (i := 3) (N := some 25) #[true, true, true, true, false, false] rfl rfl (by kernel_rfl) (by decide) (fun K hK => ?_)
  refine Kd.R_make_step (Kd.int .i64) _ 3 (by rfl) (N := 25) rfl 23 _ _ rfl (N : Int) rfl rfl Try.underlying23 (.int .i64 0) 8 info3 rfl (by decide) (by omega) 0 (ok := fun _ => True) (okp := fun _ => True) rfl (fun _ hk => hk) trivial (by omega) (by have := HN4.out; omega) (Below.refl _ _) (Nat.le_refl _) ?_
  intro vm w5 hom hb hgm hnm
  clear hgm hnm
  rw [hn1] at hom
  have hsl := Kd.R_slice hom
  rw [List.length_replicate] at hsl
  obtain ⟨Am, cm, rfl⟩ := hsl
  have QM := Aside0.mk (Kd.R_reads' hom)
  have S5 := Aside0.mk (S3b.out.step hb)
  have Q5 := Aside0.mk (Kd.C_below Q4b.out hb)
  clear hom hb S3b Q4b
  refine hK.out _ _ S5.out.k.cells (fun hHeld => ?_)
  clear hK K
  refine norm_ (a' := ?_) ?_ ?_; rotate_left
  · show Act.put _ (some 25) _ = _
    simp only [Act.put, List.setIfInBounds_toArray, List.set_cons_zero, List.set_cons_succ]; rfl
  refine one_ (i := 4) (N := some 26) #[true, true, true, true, true, false] rfl rfl (by kernel_rfl) (by decide) (fun K hK => ?_)
  refine goes_ Try.func97 (by kernel_rfl) rfl #[.slice d.A2 t.f2.length d.c2, .slice Am N cm] (by rfl) rfl rfl (by (try simp only [List.map_toArray, List.map_cons, List.map_nil]); first | done | rfl) ?_
  have hlr : (List.replicate N (0 : Int)).length = N := by simp
  have HOR := or_any k d.A2 d.c2 t.f2 S5.out.r.r2 S5.out.r.c2 H.out.v2 Am cm (List.replicate N 0) QM.out.2.2 (by rw [hlr]; exact QM.out.2.1)
  rw [hlr] at HOR
  refine HOR.mono ?_
  rintro e w6 ⟨A5, c5, rfl, h5, h6, hb⟩
  refine ⟨_, rfl, ?_⟩
  have S6 := Aside0.mk (S5.out.step hb)
  have Q6 := Aside0.mk (Kd.C_below Q5.out hb)
  have EO : Aside0 (orF t.f2 (List.replicate N 0) = offR t) := ⟨by rw [offR, HNN.out]⟩
  rw [EO.out] at h5 h6 ⊢
  have eL : (offR t).length = N := by rw [offR_len HG.out, HNN.out]
  rw [eL] at h5 h6 ⊢
  have QO := Aside0.mk h6
  clear hb S5 Q5 HOR h5 h6 QM
  refine hK.out _ _ S6.out.k.cells (fun hHeld => ?_)
  clear hK K
  refine norm_ (a' := ?_) ?_ ?_; rotate_left
  · show Act.put _ (some 26) _ = _
    simp only [Act.put, List.setIfInBounds_toArray, List.set_cons_zero, List.set_cons_succ]; rfl
  refine pure_ (i := 5) (N := some 5) (v := ?_) (a' := ?_) #[true, true, true, true, true, true] rfl rfl (by kernel_rfl) (fun _ _ _ h => h) (Or.inl ⟨by rfl, ?_⟩) ?_ ?_; rotate_left
  · intro w'; go_simp; with_reducible rfl
  rotate_left
  · simp only [Act.put, List.setIfInBounds_toArray, List.set_cons_zero, List.set_cons_succ]; rfl
  refine done_ (by kernel_rfl) ?_
  clear hHeld
  obtain ⟨q0, q1, q2, q3, q4, q5, q6, q7, q8, q9, q10⟩ := S6.out.k.cells
  go_wp2_with fail
  refine (or_any k d.A9 d.c9 t.f9 S6.out.r.r9 S6.out.r.c9 H.out.v9 A4 c4 (valG t.f1) Q6.out Q4.out.2.1).mono ?_
  rintro e w7 ⟨A6, c6, rfl, h5, h6, hb⟩
  have S7 := Aside0.mk (S6.out.step hb)
  have Q7 := Aside0.mk (Kd.C_below Q6.out hb)
  have QO7 := Aside0.mk (Kd.C_below QO.out hb)
  have ED : Aside0 (orF t.f9 (valG t.f1) = durR t) := ⟨rfl⟩
  rw [ED.out] at h5 h6 ⊢
  have eL2 : (durR t).length = N := by rw [durR_len HG.out, HNN.out]
  rw [eL2] at h5 h6 ⊢
  have QD := Aside0.mk h6
  clear hb S6 Q6 QO h5 h6 q0 q1 q2 q3 q4 q5 q6 q7 q8 q9 q10
  obtain ⟨q0, q1, q2, q3, q4, q5, q6, q7, q8, q9, q10⟩ := S7.out.k.cells
  go_wp2_with fail
  have HC2 := chunked_calls t d S7.out.r (by have := H8.out; omega)
  unfold cells27 at HC2
  refine HC2.mono ?_
  rintro e w8 ⟨v7, rfl, hv7, hb⟩
  have eC : (chunkR t).length = t.f8.length := by rw [chunkR_msL HG.out, msL_len]
  have S8 := Aside0.mk (S7.out.step hb)
  have Q8 := Aside0.mk (Kd.C_below Q7.out hb)
  have QO8 := Aside0.mk (Kd.C_below QO7.out hb)
  have QD8 := Aside0.mk (Kd.C_below QD.out hb)
  obtain ⟨A7, c7, rfl⟩ := Kd.R_slice hv7
  have QC8 := Aside0.mk (Kd.R_reads' hv7).2.2
  rw [chunkR_msL HG.out] at QC8 ⊢
  rw [msL_len] at QC8 ⊢
  clear hb S7 Q7 QO7 QD HC2 hv7 eC q0 q1 q2 q3 q4 q5 q6 q7 q8 q9 q10
  obtain ⟨q0, q1, q2, q3, q4, q5, q6, q7, q8, q9, q10⟩ := S8.out.k.cells
  go_wp2_with fail
  clear q0 q1 q2 q3 q4 q5 q6 q7 q8 q9 q10
  obtain ⟨DT, hDT⟩ : ∃ z, dtsAt t.f0 (valG t.f1) = z := ⟨_, rfl⟩
  have HDT := Aside0.mk hDT
  have hd0 : t.f0 = DT 0 := by rw [← hDT]; rfl
  clear hDT
  rw [hd0]
  clear hd0
  have hn5 : N = tmN t := HNN.out.symm
  have HN5 := Aside0.mk hn5
  clear hn0 hn1 hn4 hn5 eL eL2 hlr
  go_loopg [9, 10, 11, 12, 13, 14] (N + 1) (fun kq v9 v10 v11 v12 v13 v14 w' => ∃ (i c : Nat) (chunk left place : Int), v14 = .int .i64 (i : Int) ∧ v10 = .int .i64 (DT i) ∧ v11 = .int .i64 chunk ∧ v12 = .int .i64 left ∧ v13 = .int .i64 place ∧ Aside0 (kq = N - i + 1) ∧ Aside0 (i ≤ N ∧ AtS t i c chunk left place) ∧ Aside0 (Kd.S k51 51 w' w8.heap.size (fun _ => True) v9 ((List.range i).map (entR t))) ∧ Aside0 (Below w8.heap.size w8 w'))
  case atStart => exact ⟨0, 0, -1, 0, 0, rfl, rfl, rfl, rfl, rfl, ⟨rfl⟩, ⟨⟨Nat.zero_le _, AtS.start t⟩⟩, ⟨Kd.S_nil _ _ _ _ _⟩, ⟨Below.refl _ _⟩⟩
  case round =>
    obtain ⟨i, c, chunk, left, place, rfl, rfl, rfl, rfl, rfl, HQ, HI, HO, HB⟩ := hrel
    by_cases hi : i < N
    · have hi1 : decide ((i : Int) < (N : Int)) = true := decide_eq_true (by omega)
      have hi2 : decide (i < N) = true := decide_eq_true hi
      have hi3 : (i < N) = True := eq_true hi
      have HI1 := Aside0.mk hi
      have e8 : wrap64 ((i : Int) + 1) = ((i + 1 : Nat) : Int) := by have := HN4.out; unfold wrap64; omega
      clear hi
      go_wp2_with fail
      go_loopg [11, 12, 13] (t.f8.length - c + 1) (fun kq v11 v12 v13 w' => ∃ (c : Nat) (chunk left place : Int), v11 = .int .i64 chunk ∧ v12 = .int .i64 left ∧ v13 = .int .i64 place ∧ Aside0 (kq = t.f8.length - c + 1) ∧ Aside0 (AtS t i c chunk left place) ∧ Aside0 (w' = wr))
      case atStart => exact ⟨c, chunk, left, place, rfl, rfl, rfl, ⟨rfl⟩, ⟨HI.out.2⟩, ⟨rfl⟩⟩
      case round =>
        clear HI
        obtain ⟨c, chunk, left, place, rfl, rfl, rfl, JQ, JI, JW⟩ := hrel
        obtain rfl := JW.out
        clear JW
        by_cases h0 : left = 0
        · have h0a : (left == 0) = true := beq_iff_eq.mpr h0
          have hop := JI.out.open' HG.out (by rw [← HN5.out]; exact HI1.out) h0
          have OP := Aside0.mk hop
          have hc := hop.1
          have ech : wrap64 (chunk + 1) = (c : Int) := by have := JI.out.ch; have := H8.out; unfold wrap64; omega
          have hc2 : decide (c < t.f8.length) = true := decide_eq_true hc
          have hc3 : (c < t.f8.length) = True := eq_true hc
          obtain ⟨ad7, e7, x7⟩ := Kd.at_int (Kd.C_below QC8.out HB.out) (c : Int) (by omega) (by omega)
          rw [Int.toNat_natCast] at x7
          obtain ⟨ad8, e8p, x8⟩ := Kd.at_int (S8.out.r.below HB.out).r8 (c : Int) (by omega) (by omega)
          rw [Int.toNat_natCast] at x8
          cases e7
          have q8 := (S8.out.k.below HB.out).cells.2.2.2.2.2.2.2.2.1
          rw [e8p] at q8
          have HC3 := Aside0.mk hc
          clear hop hc e8p
          go_wp2_with fail
          go_roundg (t.f8.length - (c + 1) + 1)
          case measure => have := JQ.out; have := HC3.out; omega
          case rel => exact ⟨c + 1, (c : Int), rd (msL t) c, rd t.f8 c, by first | rfl | rw [ech], rfl, rfl, ⟨rfl⟩, ⟨OP.out.2⟩, ⟨rfl⟩⟩
        · have h0a : (left == 0) = false := beq_eq_false_iff_ne.mpr h0
          have HNT := Aside0.mk (JI.out.ent HG.out h0)
          have HNX := Aside0.mk (JI.out.next HG.out h0)
          have eml : wrap64 (left - 1) = left - 1 := by have := JI.out.nn; have := JI.out.lf; have := HG.out.sum; have := preL_mono (L := msL t) (fun x hx => (HG.out.ms x hx).1) (show c ≤ (msL t).length by rw [msL_len]; exact JI.out.le); rw [preL_all] at this; have := HG.out.n; unfold wrap64; omega
          have EML := Aside0.mk eml
          clear h0 eml
          have hi9 : i < N := HI1.out
          go_wp2_with fail
          obtain ⟨ad5, e5, x5⟩ := Kd.at_int (Kd.C_below QO8.out HB.out) (i : Int) (by omega) (by omega)
          rw [Int.toNat_natCast] at x5
          cases e5
          obtain ⟨ad6, e6, x6⟩ := Kd.at_int (Kd.C_below QD8.out HB.out) (i : Int) (by omega) (by omega)
          rw [Int.toNat_natCast] at x6
          cases e6
          have q5 := (S8.out.k.below HB.out).cells.2.2.2.2.2.1
          have EP := pts_eq HG.out (show i < tmN t by rw [← HN5.out]; exact hi9)
          have ED2 := dur_eq HG.out (show i < tmN t by rw [← HN5.out]; exact hi9)
          rw [HDT.out] at EP
          obtain ⟨pv, hpv⟩ : ∃ z, rd (offR t) (i : Int) = z := ⟨_, rfl⟩
          obtain ⟨dv, hdv⟩ : ∃ z, rd (durR t) (i : Int) = z := ⟨_, rfl⟩
          rw [hpv] at x5 EP
          rw [hdv] at x6 ED2
          have HEP := Aside0.mk EP
          have HED := Aside0.mk ED2
          clear EP ED2 hpv hdv hi9
          have KEEP : Aside0 (wr.drew.cell? ⟨g, 5, none⟩ = some (.int .i64 t.f5) ∧ wr.drew.cell? (ad5.add i) = some (.int .i64 pv) ∧ wr.drew.cell? (ad6.add i) = some (.int .i64 dv)) := ⟨q5, x5, x6⟩
          have L5 := World.block_lt_of_cell? wr _ q5
          have L6 := World.block_lt_of_cell? wr _ x5
          have L7 := World.block_lt_of_cell? wr _ x6
          go_region_held3 (fun w' => w'.cell? ⟨g, 5, none⟩ = some (.int .i64 t.f5) ∧ w'.cell? (ad5.add i) = some (.int .i64 pv) ∧ w'.cell? (ad6.add i) = some (.int .i64 dv)) (first | exact KEEP.out | go_keep) (fail)
          try clear hHeld
          obtain ⟨PT, hPT⟩ : ∃ z, IntKind.i64.wrap (DT i + pv) = z := ⟨_, rfl⟩
          rw [hPT]
          rw [i64_w, HEP.out] at hPT
          generalize hwa : (wr.alloc (Obj.cells #[.int .i64 (DT i), .int .i64 PT, .int .i64 dv, .int .i64 t.f5, .int .i64 place, .int .i64 chunk, .bool false, .slice none 0 0] 51)).drew = wa
          have hxs : XS wr wa wr.heap.size ⟨DT i, ptsF t i, durF t i, t.f5, place, chunk, false, []⟩ (.slice none 0 0) := by
            rw [← hPT, HED.out] at hwa
            rw [← hwa]
            exact ⟨blk_drew (blk_new wr _), below_drew (below_alloc (Below.refl _ _) _), Nat.le_refl _, Kd.R_nil _ _ _ _ _⟩
          clear KEEP q5 x5 x6 L5 L6 L7 hwa hPT
          generalize wr.heap.size = gx at hxs ⊢
          have X1 := Aside0.mk hxs
          clear hxs
          obtain ⟨q0, q1, q2, q3, q4, q5, q6, q7, q8, q9, q10⟩ := (S8.out.k.below (below_step HB.out X1.out.b)).cells
          go_upto_if 74 with fail
          go_cut [] from 72 to 80 (fun w' => Aside0 (XS wr w' gx ⟨DT i, ptsF t i, durF t i, szF t i, place, chunk, false, []⟩ (.slice none 0 0)))
          case first =>
            by_cases ho : t.f5 = 0
            · have ho1 : (t.f5 == 0) = true := beq_iff_eq.mpr ho
              have HOF := Aside0.mk ho
              have hi9 := HI1.out
              have hl6 := HG.out.z0 ho
              have hn9 := HN5.out
              obtain ⟨ads, es, xs⟩ := Kd.at_int (S8.out.r.below (below_step HB.out X1.out.b)).r6 (i : Int) (by omega) (by omega)
              rw [Int.toNat_natCast] at xs
              rw [es] at q6
              have hi6 : (i < t.f6.length) = True := eq_true (by omega)
              obtain ⟨-, -, -, c3, -, -, -, -, f3, -, -⟩ := X1.out.cells
              have HSZ : Aside0 (szF t i = rd t.f6 i) := ⟨by rw [szF, if_pos HOF.out]⟩
              clear ho hi9 hl6 hn9 es
              go_wp2_with fail
              go_meet
              case rel => exact ⟨by rw [HSZ.out]; exact X1.out.put 3 _ _ rfl rfl⟩
            · have ho1 : (t.f5 == 0) = false := beq_eq_false_iff_ne.mpr ho
              have HSZ : Aside0 (szF t i = t.f5) := ⟨by rw [szF, if_neg ho]⟩
              clear ho
              go_wp2_with fail
              go_meet
              case rel => exact ⟨by rw [HSZ.out]; exact X1.out⟩
          case rest =>
          have X2 := hcut
          clear hcut X1 q0 q1 q2 q3 q4 q5 q6 q7 q8 q9 q10
          generalize wc = wb at X2 ⊢
          obtain ⟨q0, q1, q2, q3, q4, q5, q6, q7, q8, q9, q10⟩ := (S8.out.k.below (below_step HB.out X2.out.b)).cells
          go_upto_region 18 with fail
          go_cut [] from 81 to 91 (fun w' => Aside0 (XS wr w' gx ⟨DT i, ptsF t i, durF t i, szF t i, place, chunk, t.f4 || fndF t i, []⟩ (.slice none 0 0)))
          case first =>
            obtain ⟨-, -, -, -, -, -, c6, -, -, f6, -⟩ := X2.out.cells
            obtain ⟨al, hal⟩ : ∃ z, t.f4 = z := ⟨_, rfl⟩
            rw [hal] at q4
            have HAL := Aside0.mk hal
            clear hal
            cases al with
            | true =>
              go_wp2_with fail
              go_meet
              case rel => exact ⟨by rw [HAL.out]; exact X2.out.put 6 _ _ rfl rfl⟩
            | false =>
              have hb9 := H.out.b i (by rw [← HN5.out]; exact HI1.out)
              have HB9 := Aside0.mk hb9
              clear hb9
              go_wp2_with fail
              refine (dioramaref00_HasInt.calls k d.A3 d.c3 t.f3 ((i : Int) + 1) (hv i) _ (S8.out.r.below (below_step HB.out X2.out.b)).r3 S8.out.r.c3 HB9.out.1).mono ?_
              rintro e wc ⟨rfl, hb0⟩
              have X3 := Aside0.mk (X2.out.below hb0.below)
              clear hb0 c6 f6 X2
              obtain ⟨-, -, -, -, -, -, c6, -, -, f6, -⟩ := X3.out.cells
              go_wp2_with fail
              go_meet
              case rel => exact ⟨by have hx := HB9.out.2; rw [HAL.out, Bool.false_or, ← hx]; exact X3.out.put 6 _ _ rfl rfl⟩
          case rest =>
          have X4 := hcut
          clear hcut X2 q0 q1 q2 q3 q4 q5 q6 q7 q8 q9 q10
          generalize wc = wd at X4 ⊢
          have q10 := (S8.out.k.below (below_step HB.out X4.out.b)).cells.2.2.2.2.2.2.2.2.2.2
          go_upto_if 95 with fail
          go_cut [] from 95 to 120 (fun w' => Aside0 (∃ vd, XS wr w' gx ⟨DT i, ptsF t i, durF t i, szF t i, place, chunk, t.f4 || fndF t i, depF t i⟩ vd))
          case first =>
            by_cases ho : 0 < t.f10.length
            · have ho1 : decide (0 < t.f10.length) = true := decide_eq_true ho
              have ho2 : (0 < t.f10.length) = True := eq_true ho
              have hl10 := HG.out.dn ho
              have hi9 := HI1.out
              have hn9 := HN5.out
              obtain ⟨adp, Ap, cp, e2, y5, hcp, hRp⟩ := at_L3 S8.out.r.r10 (i : Int) (by omega) (by omega)
              rw [Int.toNat_natCast] at y5
              rw [e2] at q10
              have HE2 := Aside0.mk e2
              have hio1 : (i < t.f10.length) = True := eq_true (by omega)
              have HDF : Aside0 (depF t i = (rd_L3 t.f10 i).map (fun d => wrap64 ((i : Int) - d))) := ⟨by rw [depF, if_pos ho]⟩
              have HLL : Aside0 ((rd_L3 t.f10 i).length ≤ 4) := ⟨dep_len HG.out (by omega)⟩
              obtain ⟨dl, hdl⟩ : ∃ z, rd_L3 t.f10 i = z := ⟨_, rfl⟩
              rw [hdl] at y5 hRp HLL HDF
              have HRP := Aside0.mk hRp
              have HY5 := Aside0.mk y5
              have HPB := Aside0.mk (World.block_lt_of_cell? w8 _ y5)
              have y6 := ((below_step HB.out X4.out.b).cell HPB.out).trans y5
              clear y5 e2 hdl hRp hcp hl10 hi9 hn9
              go_wp2_with fail
              generalize Value.bool (decide (0 < t.f10.length)) = v95
              go_loopg [16] (dl.length + 1) (fun kq v16 w' => ∃ (j : Nat), v16 = .int .i64 (j : Int) ∧ Aside0 (kq = dl.length - j + 1) ∧ Aside0 (j ≤ dl.length) ∧ Aside0 (∃ vj, XS wr w' gx ⟨DT i, ptsF t i, durF t i, szF t i, place, chunk, t.f4 || fndF t i, (dl.take j).map (fun d => wrap64 ((i : Int) - d))⟩ vj))
              case atStart => exact ⟨0, rfl, ⟨rfl⟩, ⟨Nat.zero_le _⟩, ⟨_, X4.out⟩⟩
              case round =>
                clear X4 y6 q10
                obtain ⟨j, rfl, JQ, JI, JP⟩ := hrel
                obtain ⟨vj, JP⟩ := JP.out
                have q10 := (S8.out.k.below (below_step HB.out JP.b)).cells.2.2.2.2.2.2.2.2.2.2
                rw [HE2.out] at q10
                have y6 := ((below_step HB.out JP.b).cell HPB.out).trans HY5.out
                by_cases hj : j < dl.length
                · have hj1 : decide ((j : Int) < (dl.length : Int)) = true := decide_eq_true (by omega)
                  have hj2 : decide (j < dl.length) = true := decide_eq_true hj
                  have hj3 : (j < dl.length) = True := eq_true hj
                  have HJ1 := Aside0.mk hj
                  have e9 : wrap64 ((j : Int) + 1) = ((j + 1 : Nat) : Int) := by have := HLL.out; unfold wrap64; omega
                  obtain ⟨adj, ej, xj⟩ := Kd.at_int HRP.out (j : Int) (by omega) (by omega)
                  cases ej
                  rw [Int.toNat_natCast] at xj
                  have hwg : w8.heap.size ≤ gx := Nat.le_trans HB.out.size JP.ge
                  have hgx : g ≤ gx := by have := S8.out.k.lt; omega
                  have hpx : (adp.add i).block ≤ gx := by have := HPB.out; omega
                  have hjx : (adj.add j).block ≤ gx := by have := World.block_lt_of_cell? w8 _ xj; omega
                  replace xj := ((below_step HB.out JP.b).cell (World.block_lt_of_cell? w8 _ xj)).trans xj
                  obtain ⟨dq, hdq⟩ : ∃ z, rd dl j = z := ⟨_, rfl⟩
                  rw [hdq] at xj
                  obtain ⟨pl, hpl⟩ : ∃ z, (dl.take j).map (fun d => wrap64 ((i : Int) - d)) = z := ⟨_, rfl⟩
                  obtain ⟨pl2, hpl2⟩ : ∃ z, pl ++ [wrap64 ((i : Int) - dq)] = z := ⟨_, rfl⟩
                  have HNX2 : Aside0 ((dl.take (j + 1)).map (fun d => wrap64 ((i : Int) - d)) = pl2) := ⟨by
                    rw [List.take_add_one, List.map_append, hpl, ← hpl2, ← hdq]
                    simp [rd, List.getD_eq_getElem?_getD, List.getElem?_eq_getElem hj]⟩
                  have HPN : Aside0 (pl.length ≤ 4) := ⟨by rw [← hpl]; have := HLL.out; simp; omega⟩
                  rw [hpl] at JP
                  have HPL2 := Aside0.mk hpl2
                  clear hpl hpl2 hdq hj
                  obtain ⟨Av, cv, hv1⟩ := Kd.R_slice JP.r
                  subst hv1
                  obtain ⟨-, -, -, -, -, -, -, c7', -, -, f7⟩ := JP.cells
                  have HGX := Aside0.mk (blk_lt JP.k)
                  have HFA : Aside0 (∀ w1', wr.drew.grownBy w1' (Value.slice Av pl.length cv).ownBlock → ∀ {a : Addr} {v : Value}, wr.drew.cell? a = some v → a.block ≤ gx → w1'.cell? a = some v) := ⟨fun w1' hg a v h hlt => cell_grown hg h (fun e => by have := Kd.R_base JP.r _ e.symm; omega)⟩
                  have JW := Aside0.mk JP
                  clear JP hwg
                  go_wp2_with fail
                  refine start_ (n := 16) (S := fun w' => w'.cell? ⟨g, 10, none⟩ = some (.slice (some adp) t.f10.length d.c10) ∧ w'.cell? (adp.add i) = some (.slice (some adj) dl.length cp) ∧ w'.cell? (adj.add j) = some (.int .i64 dq) ∧ w'.cell? ⟨gx, 7, none⟩ = some (.slice Av pl.length cv)) (ds := [15]) #[false, false, false, false, false, false, false, false, false, false, false, false, false, false, false, false] (by kernel_rfl) rfl rfl ⟨q10, y6, xj, c7'⟩ (fun hHeld => ?_)
                  refine pure_ (i := 0) (N := some 106) (v := ?_) (a' := ?_) #[true, false, false, false, false, false, false, false, false, false, false, false, false, false, false, false] rfl rfl (by kernel_rfl) (fun _ _ _ h => h) (Or.inl ⟨by rfl, ?_⟩) ?_ ?_
                  rotate_left
                  · intro w'
                    go_simp
                    with_reducible rfl
                  rotate_left
                  · simp only [Act.put, List.setIfInBounds_toArray, List.set_cons_zero, List.set_cons_succ, i64_w, i32_w]
                    rfl
                  refine pure_ (i := 2) (N := some 108) (v := ?_) (a' := ?_) #[true, false, true, false, false, false, false, false, false, false, false, false, false, false, false, false] rfl rfl (by kernel_rfl) (fun _ _ _ h => h) (Or.inl ⟨by rfl, ?_⟩) ?_ ?_
                  rotate_left
                  · intro w'
                    go_simp
                    with_reducible rfl
                  rotate_left
                  · simp only [Act.put, List.setIfInBounds_toArray, List.set_cons_zero, List.set_cons_succ, i64_w, i32_w]
                    rfl
                  refine pure_ (i := 3) (N := some 109) (v := ?_) (a' := ?_) #[true, false, true, true, false, false, false, false, false, false, false, false, false, false, false, false] rfl rfl (by kernel_rfl) (fun _ _ _ h => h) (Or.inl ⟨by rfl, ?_⟩) ?_ ?_
                  rotate_left
                  · intro w'
                    go_simp
                    with_reducible rfl
                  rotate_left
                  · simp only [Act.put, List.setIfInBounds_toArray, List.set_cons_zero, List.set_cons_succ, i64_w, i32_w]
                    rfl
                  refine pure_ (i := 5) (N := some 111) (v := ?_) (a' := ?_) #[true, false, true, true, false, true, false, false, false, false, false, false, false, false, false, false] rfl rfl (by kernel_rfl) (fun _ _ _ h => h) (Or.inl ⟨by rfl, ?_⟩) ?_ ?_
                  rotate_left
                  · intro w'
                    go_simp
                    with_reducible rfl
                  rotate_left
                  · simp only [Act.put, List.setIfInBounds_toArray, List.set_cons_zero, List.set_cons_succ, i64_w, i32_w]
                    rfl
                  refine pure_ (i := 8) (N := some 114) (v := ?_) (a' := ?_) #[true, false, true, true, false, true, false, false, true, false, false, false, false, false, false, false] rfl rfl (by kernel_rfl) (fun _ _ _ h => h) (Or.inl ⟨by rfl, ?_⟩) ?_ ?_
                  rotate_left
                  · intro w'
                    go_simp
                    with_reducible rfl
                  rotate_left
                  · simp only [Act.put, List.setIfInBounds_toArray, List.set_cons_zero, List.set_cons_succ, i64_w, i32_w]
                    rfl
                  refine take_ (i := 1) (N := some 107) (v := ?_) (a' := ?_) #[true, true, true, true, false, true, false, false, true, false, false, false, false, false, false, false] rfl rfl (by kernel_rfl) (fun _ _ _ h => h) (Or.inl ⟨by rfl, ?_⟩) hHeld ?_ ?_
                  rotate_left
                  · rintro w' ⟨s0, s1, s2, s3⟩
                    go_simp
                    with_reducible rfl
                  rotate_left
                  · simp only [Act.put, List.setIfInBounds_toArray, List.set_cons_zero, List.set_cons_succ, i64_w, i32_w]
                    rfl
                  refine take_ (i := 4) (N := some 110) (v := ?_) (a' := ?_) #[true, true, true, true, true, true, false, false, true, false, false, false, false, false, false, false] rfl rfl (by kernel_rfl) (fun _ _ _ h => h) (Or.inl ⟨by rfl, ?_⟩) hHeld ?_ ?_
                  rotate_left
                  · rintro w' ⟨s0, s1, s2, s3⟩
                    go_simp
                    with_reducible rfl
                  rotate_left
                  · simp only [Act.put, List.setIfInBounds_toArray, List.set_cons_zero, List.set_cons_succ, i64_w, i32_w]
                    rfl
                  refine pure_ (i := 6) (N := some 112) (v := ?_) (a' := ?_) #[true, true, true, true, true, true, true, false, true, false, false, false, false, false, false, false] rfl rfl (by kernel_rfl) (fun _ _ _ h => h) (Or.inl ⟨by rfl, ?_⟩) ?_ ?_
                  rotate_left
                  · intro w'
                    go_simp
                    with_reducible rfl
                  rotate_left
                  · simp only [Act.put, List.setIfInBounds_toArray, List.set_cons_zero, List.set_cons_succ, i64_w, i32_w]
                    rfl
                  refine take_ (i := 7) (N := some 113) (v := ?_) (a' := ?_) #[true, true, true, true, true, true, true, true, true, false, false, false, false, false, false, false] rfl rfl (by kernel_rfl) (fun _ _ _ h => h) (Or.inl ⟨by rfl, ?_⟩) hHeld ?_ ?_
                  rotate_left
                  · rintro w' ⟨s0, s1, s2, s3⟩
                    go_simp
                    with_reducible rfl
                  rotate_left
                  · simp only [Act.put, List.setIfInBounds_toArray, List.set_cons_zero, List.set_cons_succ, i64_w, i32_w]
                    rfl
                  refine pure_ (i := 9) (N := some 115) (v := ?_) (a' := ?_) #[true, true, true, true, true, true, true, true, true, true, false, false, false, false, false, false] rfl rfl (by kernel_rfl) (fun _ _ _ h => h) (Or.inl ⟨by rfl, ?_⟩) ?_ ?_
                  rotate_left
                  · intro w'
                    go_simp
                    with_reducible rfl
                  rotate_left
                  · simp only [Act.put, List.setIfInBounds_toArray, List.set_cons_zero, List.set_cons_succ, i64_w, i32_w]
                    rfl
                  refine take_ (i := 10) (N := some 116) (v := ?_) (a' := ?_) #[true, true, true, true, true, true, true, true, true, true, true, false, false, false, false, false] rfl rfl (by kernel_rfl) (fun _ _ _ h => h) (Or.inl ⟨by rfl, ?_⟩) hHeld ?_ ?_
                  rotate_left
                  · rintro w' ⟨s0, s1, s2, s3⟩
                    go_simp
                    with_reducible rfl
                  rotate_left
                  · simp only [Act.put, List.setIfInBounds_toArray, List.set_cons_zero, List.set_cons_succ, i64_w, i32_w]
                    rfl
                  refine pure_ (i := 11) (N := some 117) (v := ?_) (a' := ?_) #[true, true, true, true, true, true, true, true, true, true, true, true, false, false, false, false] rfl rfl (by kernel_rfl) (fun _ _ _ h => h) (Or.inl ⟨by rfl, ?_⟩) ?_ ?_
                  rotate_left
                  · intro w'
                    go_simp
                    with_reducible rfl
                  rotate_left
                  · simp only [Act.put, List.setIfInBounds_toArray, List.set_cons_zero, List.set_cons_succ, i64_w, i32_w]
                    rfl
                  refine one_ (i := 12) (N := some 118) #[true, true, true, true, true, true, true, true, true, true, true, true, true, false, false, false] rfl rfl (by kernel_rfl) (by decide) (fun K hK => ?_)
                  refine value_ (w1 := ?_) (v := ?_) (by rfl) rfl ?_ ?_
                  rotate_left 2
                  · go_simp
                    constructor
                    · rfl
                    · rfl
                  refine hK.out _ _ ⟨(World.cell?_alloc_lt _ _ _ (World.block_lt_of_cell? _ _ q10)).trans q10, (World.cell?_alloc_lt _ _ _ (World.block_lt_of_cell? _ _ y6)).trans y6, (World.cell?_alloc_lt _ _ _ (World.block_lt_of_cell? _ _ xj)).trans xj, (World.cell?_alloc_lt _ _ _ (World.block_lt_of_cell? _ _ c7')).trans c7'⟩ (fun hHeld => ?_)
                  clear hK K
                  refine norm_ (a' := ?_) ?_ ?_
                  rotate_left
                  · show Act.put _ (some 118) _ = _
                    simp only [Act.put, List.setIfInBounds_toArray, List.set_cons_zero, List.set_cons_succ, i64_w, i32_w]
                    rfl
                  refine one_ (i := 13) (N := some 119) #[true, true, true, true, true, true, true, true, true, true, true, true, true, true, false, false] rfl rfl (by kernel_rfl) (by decide) (fun K hK => ?_)
                  refine Kd.R_append_step (Kd.int .i64) (w0 := wr.drew) (gx + 1) (by rfl) (.tmp 107) (.tmp 118) 23 3 (.int .i64 0) 8 rfl Try.underlying23 info3 rfl (by decide) (by decide) (.slice Av pl.length cv) pl (wrap64 ((i : Int) - dq)) [.int .i64 (wrap64 ((i : Int) - dq))] (fun k => gx < k) (fun _ => False) (by first | rfl | exact ev_tmp (by assumption) | (simp [Act.eval, *]; done)) (by first | rfl | exact ev_tmp (by assumption) | (simp [Act.eval, *]; done)) rfl (fun _ h => h.elim) (fun k hk => by have := HGX.out; exact Nat.lt_of_lt_of_le this hk) (Kd.R_drew JW.out.r) (Below.refl _ _) (by have := HGX.out; exact this) (by have := HPN.out; omega) ?_
                  intro v1 w1' hr hB hG hat
                  rw [HPL2.out] at hr
                  obtain ⟨Av1, cv1, rfl⟩ := Kd.R_slice hr
                  have HRA := Aside0.mk hr
                  have HGA := Aside0.mk hG
                  clear hr hB hG hat
                  refine hK.out _ _ ⟨HFA.out w1' HGA.out q10 hgx, HFA.out w1' HGA.out y6 hpx, HFA.out w1' HGA.out xj hjx, (JW.out.drew.after HGA.out).1⟩ (fun hHeld => ?_)
                  clear hK K
                  refine norm_ (a' := ?_) ?_ ?_
                  rotate_left
                  · show Act.put _ (some 119) _ = _
                    simp only [Act.put, List.setIfInBounds_toArray, List.set_cons_zero, List.set_cons_succ, i64_w, i32_w]
                    rfl
                  refine pure_ (i := 14) (N := some 120) (v := ?_) (a' := ?_) #[true, true, true, true, true, true, true, true, true, true, true, true, true, true, true, false] rfl rfl (by kernel_rfl) (fun _ _ _ h => h) (Or.inl ⟨by rfl, ?_⟩) ?_ ?_
                  rotate_left
                  · intro w'
                    go_simp
                    with_reducible rfl
                  rotate_left
                  · simp only [Act.put, List.setIfInBounds_toArray, List.set_cons_zero, List.set_cons_succ, i64_w, i32_w]
                    rfl
                  refine last_ (i := 15) (N := none) #[true, true, true, true, true, true, true, true, true, true, true, true, true, true, true, true] rfl rfl (by kernel_rfl) (by decide) (fun K hK => ?_)
                  have c7a := (JW.out.drew.after HGA.out).1
                  have f7a := (JW.out.drew.after HGA.out).2
                  refine skip_ (w1 := ?_) (by rfl) rfl ?_ ?_
                  rotate_left
                  · go_simp
                    rfl
                  refine hK.out _ _ ?_
                  clear hK K
                  refine done_ (by kernel_rfl) ?_
                  go_wp2_with fail
                  go_roundg (dl.length - (j + 1) + 1)
                  case measure => have := JQ.out; have := HJ1.out; omega
                  case rel => exact ⟨j + 1, by first | rfl | (simp; done) | rw [e9], ⟨rfl⟩, ⟨HJ1.out⟩, ⟨_, by rw [HNX2.out]; exact JW.out.drew.appended HGA.out HRA.out⟩⟩
                · have hj1 : decide ((j : Int) < (dl.length : Int)) = false := decide_eq_false (by omega)
                  have hj2 : decide (j < dl.length) = false := decide_eq_false hj
                  have hj3 : (j < dl.length) = False := eq_false hj
                  have HTK : Aside0 (dl.take j = dl) := ⟨List.take_of_length_le (by omega)⟩
                  have HP := Aside0.mk JP
                  clear JP hj
                  go_wp2_with fail
                  go_meet
                  case rel => exact ⟨_, by rw [HDF.out]; have h9 := HP.out; rw [HTK.out] at h9; exact h9⟩
            · have ho1 : decide (0 < t.f10.length) = false := decide_eq_false ho
              have ho2 : (0 < t.f10.length) = False := eq_false ho
              have HDF : Aside0 (depF t i = []) := ⟨by rw [depF, if_neg ho]⟩
              go_wp2_with fail
              go_meet
              case rel => exact ⟨_, by rw [HDF.out]; exact X4.out⟩
          case rest =>
          obtain ⟨vd, hcut⟩ := hcut.out
          have X5 := Aside0.mk hcut
          clear hcut X4 q10
          generalize wc = we at X5 ⊢
          obtain ⟨c0, c1, c2, c3, c4', c5', c6', c7', -, -, -⟩ := X5.out.cells
          have HEN : Aside0 ((⟨DT i, ptsF t i, durF t i, szF t i, place, chunk, t.f4 || fndF t i, depF t i⟩ : S51) = entR t i) := ⟨by rw [entR, HDT.out, HNT.out.1, HNT.out.2]⟩
          have HSO := Aside0.mk (Kd.S_old HO.out X5.out.b)
          obtain ⟨Ao, co, hoe⟩ := Kd.S_slice HO.out
          subst hoe
          have HLT : Aside0 (∀ k', (Value.slice Ao ((List.range i).map (entR t)).length co).ownBlock = some k' → k' < wr.heap.size) := ⟨Kd.S_lt HO.out⟩
          have HLN : Aside0 (((List.range i).map (entR t)).length = i) := ⟨by simp⟩
          obtain ⟨xs, hxs⟩ : ∃ z, (List.range i).map (entR t) = z := ⟨_, rfl⟩
          have HXN : Aside0 (xs ++ [entR t i] = (List.range (i + 1)).map (entR t)) := ⟨by rw [entsR_next, hxs]⟩
          rw [hxs] at HSO HLT HLN ⊢
          have hlx := HLN.out
          have hi4 := HN4.out
          have hi5 := HI1.out
          have hle : (xs.length + 1) * 80 ≤ 140737488355328 := by omega
          have HLE := Aside0.mk hle
          have HM9 : Aside0 (Kd.M k51 we w8.heap.size (fun k' => gx < k') (entR t i) [.int .i64 (DT i), .int .i64 (ptsF t i), .int .i64 (durF t i), .int .i64 (szF t i), .int .i64 place, .int .i64 chunk, .bool (t.f4 || fndF t i), vd]) := ⟨by
            have hm := k51_mkM we w8.heap.size (fun k' => gx < k') ⟨DT i, ptsF t i, durF t i, szF t i, place, chunk, t.f4 || fndF t i, depF t i⟩ (v7 := vd) (Kd.R_lower X5.out.r (by have := HB.out.size; have := X5.out.ge; omega))
            rw [← HEN.out]
            exact hm⟩
          have HXG := Aside0.mk X5.out.ge
          have HB5 := Aside0.mk (below_step HB.out X5.out.b)
          have x4 : we.cell? ⟨gx, 3, none⟩ = some (.int .i64 (szF t i)) := c3
          clear hxs hlx hi4 hi5 hle HO
          go_wp2_with (at_builtin; refine Kd.S_append k51 (w0 := w8) (W := we) w8.heap.size rfl (.tmp 121) (.tmp 123) 43 51 (.agg #[.int .i64 0, .int .i64 0, .int .i64 0, .int .i64 0, .int .i64 0, .int .i64 0, .bool false, .slice none 0 0]) 80 rfl Try.underlying43 infoRE rfl (by decide) (by decide) _ xs (entR t i) [.int .i64 (DT i), .int .i64 (ptsF t i), .int .i64 (durF t i), .int .i64 (szF t i), .int .i64 place, .int .i64 chunk, .bool (t.f4 || fndF t i), vd] (fun _ => True) (fun k' => gx < k') rfl rfl HM9.out (fun k' hk' => ⟨trivial, fun e => by have h7 := HLT.out k' e.symm; have h8 := HXG.out; omega⟩) (fun _ _ => trivial) (Kd.S_mono HSO.out (fun k' hk' => ⟨trivial, by have h8 := HXG.out; have h9 := hk'.2; omega⟩)) HB5.out HB5.out.size HLE.out ?_; intro v1 wf hr hB hG hat; rw [HXN.out] at hr; have HRF := Aside0.mk hr; have HBF := Aside0.mk hB; have x3 := cell_grown hG x4 (fun e => by have h7 := HLT.out gx e.symm; have h8 := HXG.out; omega); obtain ⟨ad4, e4, y4⟩ := Kd.at_int (Kd.C_below Q8.out HBF.out) (i : Int) (by omega) (by have h7 := HI1.out; have h8 := HN5.out; show (i : Int) < ((tmN t : Nat) : Int); omega); rw [Int.toNat_natCast] at y4; cases e4; have hi41 : (i < (valG t.f1).length) = True := eq_true (by have h7 := HI1.out; have h8 := HN5.out; show i < tmN t; omega); clear hr hB hG hat)
          go_roundg (N - (i + 1) + 1)
          case measure => have := HQ.out; have := HI1.out; omega
          case rel => exact ⟨i + 1, c, chunk, _, _, by first | rfl | rw [e8], by rw [← HDT.out, dtsAt_next (show i < (valG t.f1).length from by have h7 := HI1.out; have h8 := HN5.out; show i < tmN t; omega)], rfl, rfl, rfl, ⟨rfl⟩, ⟨⟨HI1.out, by rw [EML.out]; exact HNX.out⟩⟩, HRF, HBF⟩
    · have hi1 : decide ((i : Int) < (N : Int)) = false := decide_eq_false (by omega)
      have hi2 : decide (i < N) = false := decide_eq_false hi
      have hi3 : (i < N) = False := eq_false hi
      have hin : i = tmN t := by have := HI.out.1; have := HN5.out; omega
      have HO2 : Aside0 (Kd.S k51 51 wr w8.heap.size (fun _ => True) u9 (entsR t)) := ⟨by rw [entsR, ← hin]; exact HO.out⟩
      clear hin hi
      go_wp2_with fail
      go_ret
      exact ⟨_, rfl, Kd.S_lower HO2.out S8.out.b.size, below_step S8.out.b HB.out⟩
end Go.Proofs.Ytmbhafgnmdfjhaa.QTab
namespace Go.Proofs.Ytmbhafgnmdfjhaa.QTab
open Go.Proofs.Ytmbhafgnmdfjhaa.PureT Go.RowKit Go.Proofs.YtmbhafgnmdfjhaaW.PrintWords Go.Proofs.YtmbhafgnmdfjhaaW.PrintLast Go.Proofs.YtmbhafgnmdfjhaaW.PrintMore Go.Proofs.YtmbhafgnmdfjhaaV
set_option linter.unusedVariables false
set_option linter.unusedSimpArgs false
set_option maxRecDepth 100000 in
set_option maxHeartbeats 2000000 in
theorem rExpand_calls {w : World} (t : S27) (d : D27) (hr : R27 w t d) (r : Int) (L : List S51)
    (hC : ∀ w1, R27 w1 t d → Calls Try.prog 13 #[.agg (cells27 t d)] w1 fun e w' => e = .returned (.int .i64 r) ∧ Below w1.heap.size w1 w')
    (hE : r = 0 → ∀ w1, R27 w1 t d → Calls Try.prog 71 #[.agg (cells27 t d)] w1 fun e w' => ∃ v, e = .returned v ∧ Kd.S k51 51 w' w1.heap.size (fun _ => True) v L ∧ Below w1.heap.size w1 w') :
    Calls Try.prog 26 #[.agg (cells27 t d)] w fun e w' => ∃ v, e = .returned (.tuple #[v, .int .i64 r]) ∧ Kd.S k51 51 w' w.heap.size (fun _ => True) v (if r = 0 then L else []) ∧ Below w.heap.size w w' := by
  have hu := Try.underlying27
  have HR := Aside0.mk hr
  have HC := Aside0.mk hC
  have HE := Aside0.mk hE
  clear hr hC hE
  unfold cells27
  go_enter Try.func26, Try.ntmps26
  obtain ⟨w1, hw1⟩ : ∃ wz, w.alloc (.cells (cells27 t d) 27) = wz := ⟨_, rfl⟩
  obtain ⟨g, hg⟩ : ∃ rz, w.heap.size = rz := ⟨_, rfl⟩
  have B1 : Aside0 (Below w.heap.size w w1) := ⟨by rw [← hw1]; exact below_alloc (Below.refl _ _) _⟩
  have K1 : Aside0 (Box27 w1 g t d) := ⟨by rw [← hw1, ← hg]; exact blk_new w _⟩
  unfold cells27 at hw1
  obtain ⟨q0, q1, q2, q3, q4, q5, q6, q7, q8, q9, q10⟩ := K1.out.cells
  go_wp2_with fail
  have HC2 := HC.out w1 (HR.out.below B1.out)
  unfold cells27 at HC2
  refine HC2.mono ?_
  rintro e w2 ⟨rfl, hb⟩
  have B2 := Aside0.mk (below_step B1.out hb)
  have K2 := Aside0.mk (K1.out.below hb)
  clear hb q0 q1 q2 q3 q4 q5 q6 q7 q8 q9 q10 HC2 hw1 hg HC
  by_cases hz : r = 0
  · subst hz
    obtain ⟨q0, q1, q2, q3, q4, q5, q6, q7, q8, q9, q10⟩ := K2.out.cells
    have HEx := HE.out rfl w2 (HR.out.below B2.out)
    unfold cells27 at HEx
    go_wp2_with fail
    refine HEx.mono ?_
    rintro e w3 ⟨v, rfl, hv, hb⟩
    have HV := Aside0.mk hv
    have HB := Aside0.mk hb
    clear hv hb q0 q1 q2 q3 q4 q5 q6 q7 q8 q9 q10 HEx
    go_wp2_with fail
    go_ret2
    exact ⟨v, rfl, Kd.S_lower HV.out B2.out.size, below_step B2.out HB.out⟩
  · have hz1 : (r == 0) = false := beq_eq_false_iff_ne.mpr hz
    have hz2 : (r != 0) = true := bne_iff_ne.mpr hz
    have hz3 : (r = 0) = False := by simp [hz]
    go_wp2_with fail
    go_ret2
    exact ⟨_, rfl, by first | exact Kd.S_nil _ _ _ _ _ | exact Kd.S_nil _ _ _ _, B2.out⟩
end Go.Proofs.Ytmbhafgnmdfjhaa.QTab
namespace Go.Proofs.Ytmbhafgnmdfjhaa.QTab
open Go.Proofs.Ytmbhafgnmdfjhaa.PureT Go.RowKit Go.Proofs.YtmbhafgnmdfjhaaW.PrintWords Go.Proofs.YtmbhafgnmdfjhaaW.PrintLast Go.Proofs.YtmbhafgnmdfjhaaW.PrintMore Go.Proofs.YtmbhafgnmdfjhaaV
set_option linter.unusedVariables false
set_option linter.unusedSimpArgs false
theorem rexp_ev {t : S27} (G : GoodT t) (L : Lens t) : ∃ K, ∃ hv : Nat → Int, RExpOk K t hv := by
  have l1 := L.l1; have l2 := L.l2; have l9 := L.l9
  obtain ⟨Kc, hc⟩ := counted_ev (l := t.f1) (by omega)
  obtain ⟨_, e1, _⟩ := tc_eq G.p1
  have hN : sumZ t.f1 = (tmN t : Int) := by rw [e1 (by have := G.tot; have := G.n; omega), G.tot]
  obtain ⟨K1, h1⟩ := rvalues_ev (l := t.f1) (by omega) G.p1 (by have := G.n; omega)
  have h2 : ∃ K2, ∀ k, K2 ≤ k → 0 < t.f2.length → dioramaref09_values.f k t.f2 = some (valG t.f2) := by
    by_cases hp : 0 < t.f2.length
    · obtain ⟨K2, h2⟩ := rvalues_ev (l := t.f2) (by omega) G.p2 (by have := (G.o hp).2; have := G.n; omega)
      exact ⟨K2, fun k hk _ => h2 k hk⟩
    · exact ⟨0, fun _ _ h => absurd h hp⟩
  have h9 : ∃ K9, ∀ k, K9 ≤ k → 0 < t.f9.length → dioramaref09_values.f k t.f9 = some (valG t.f9) := by
    by_cases hp : 0 < t.f9.length
    · obtain ⟨K2, h2⟩ := rvalues_ev (l := t.f9) (by omega) G.p9 (by have := (G.d hp).2; have := G.n; omega)
      exact ⟨K2, fun k hk _ => h2 k hk⟩
    · exact ⟨0, fun _ _ h => absurd h hp⟩
  obtain ⟨K2, h2⟩ := h2
  obtain ⟨K9, h9⟩ := h9
  obtain ⟨hv, hhv⟩ := Classical.axiomOfChoice (fun i : Nat => has_ev L.l3 ((i : Int) + 1))
  obtain ⟨Kh, hh⟩ := ev_all (g := fun i k => dioramaref00_HasInt.f k t.f3 ((i : Int) + 1)) (r := hv) (tmN t) (fun i _ => (hhv i).1)
  refine ⟨Kc + K1 + K2 + K9 + Kh, hv, ⟨?_, h1 _ (by omega), h2 _ (by omega), h9 _ (by omega), fun i hi => ⟨hh _ (by omega) i hi, (hhv i).2⟩⟩⟩
  unfold dioramaref09_Count.f
  rw [show dioramaref09_counted.f _ t.f1 = _ from hc _ (by omega), Option.bind_some, ← (tc_eq G.p1).1, G.tot]
theorem sumM_pre (t : S27) (hn : ∀ x ∈ msL t, 0 ≤ x) : ∀ c, c ≤ t.f8.length → ((sumM (msF t.f7) c : Nat) : Int) = preL (msL t) c
  | 0, _ => rfl
  | c + 1, h => by
    have hc : c < t.f8.length := by omega
    have hs := preL_next (L := msL t) (c := c) (by rw [msL_len]; exact hc)
    rw [rd_msL hc] at hs
    have hm := hn _ (List.mem_map.mpr ⟨c, List.mem_range.mpr hc, rfl⟩ : msF t.f7 c ∈ msL t)
    have ih := sumM_pre t hn c (by omega)
    show ((sumM (msF t.f7) c + (msF t.f7 c).toNat : Nat) : Int) = _
    omega
theorem exp_ev {t : S27} (G : GoodT t) (L : Lens t) : ∃ K, table_values.f K t.f1 = some (valG t.f1) ∧ table_values.f K t.f2 = some (valG t.f2) ∧ table_values.f K t.f9 = some (valG t.f9) ∧ ExpOk K t (valG t.f1) (valG t.f2) (valG t.f9) (msF t.f7) := by
  have l1 := L.l1; have l2 := L.l2; have l9 := L.l9
  have nil : ∀ (l : List S83), ¬ 0 < l.length → sumZ l = 0 := fun l h => by rw [List.length_eq_zero_iff.mp (show l.length = 0 by omega)]; rfl
  obtain ⟨_, e1, _⟩ := tc_eq G.p1
  have hN : sumZ t.f1 = (tmN t : Int) := by rw [e1 (by have := G.tot; have := G.n; omega), G.tot]
  have hN4 := G.n
  obtain ⟨K1, h1⟩ := values_ev (l := t.f1) (by omega) G.p1 (by omega)
  have s2 : sumZ t.f2 ≤ 400 := by
    by_cases hp : 0 < t.f2.length
    · have := (G.o hp).2; omega
    · rw [nil _ hp]; omega
  have s9 : sumZ t.f9 ≤ 400 := by
    by_cases hp : 0 < t.f9.length
    · have := (G.d hp).2; omega
    · rw [nil _ hp]; omega
  obtain ⟨K2, h2⟩ := values_ev (l := t.f2) (by omega) G.p2 s2
  obtain ⟨K9, h9⟩ := values_ev (l := t.f9) (by omega) G.p9 s9
  have hok := G.ok
  unfold chOk at hok
  rw [Bool.and_eq_true] at hok
  obtain ⟨Kc, hc⟩ := ev_all (g := fun c k => table_inChunk.f k t.f0 t.f1 t.f2 t.f3 t.f4 t.f5 t.f6 t.f7 t.f8 t.f9 t.f10 (c : Int)) (r := msF t.f7) t.f8.length (fun c hc8 => inChunk_ev t L.l7 L.l8 hok.2 (by
        have h := beq_iff_eq.mp hok.1
        rw [decide_eq_true (show 0 < t.f8.length by omega)] at h
        exact of_decide_eq_true h) c hc8)
  have hnn : ∀ x ∈ msL t, 0 ≤ x := fun x hx => (G.ms x hx).1
  have hsy := sync_rng (Int.le_refl 0) G.sy
  refine ⟨K1 + K2 + K9 + Kc, h1 _ (by omega), h2 _ (by omega), h9 _ (by omega), ⟨by show tmN t ≤ 65536; omega, fun hp => ?_, fun hp => ?_, fun hz => by rw [G.z0 hz]; exact Nat.le_refl _, fun hp => by rw [G.dn hp]; exact Nat.le_refl _, fun j hj => hsy _ (rd_mem hj), fun c hc8 => hc _ (by omega) c hc8, ?_, fun i hi => by have := dep_len G hi; omega⟩⟩
  · by_cases h : 0 < t.f2.length
    · rw [(G.o h).1]; exact Nat.le_refl _
    · rw [valG_nil h] at hp; simp at hp
  · by_cases h : 0 < t.f9.length
    · rw [(G.d h).1]; exact Nat.le_refl _
    · rw [valG_nil h] at hp; simp at hp
  · have := sumM_pre t hnn t.f8.length (Nat.le_refl _)
    rw [show preL (msL t) t.f8.length = (tmN t : Int) from by rw [← msL_len t, preL_all, G.sum]] at this
    show sumM (msF t.f7) t.f8.length ≤ tmN t
    omega
theorem rexp_calls {w : World} (t : S27) (d : D27) (hr : R27 w t d) (h : smallB t = true) : Calls Try.prog 26 #[.agg (cells27 t d)] w fun e w' => ∃ v, e = .returned (.tuple #[v, .int .i64 (chkV t)]) ∧ Kd.S k51 51 w' w.heap.size (fun _ => True) v (if chkV t = 0 then entsR t else []) ∧ Below w.heap.size w w' := by
  obtain ⟨L, -, -⟩ := lens_of h
  refine rExpand_calls t d hr (chkV t) (entsR t) (fun w1 h1 => rchk_calls t d h1 h) (fun h0 w1 h1 => ?_)
  obtain ⟨K, hv, hK⟩ := rexp_ev (good_of h0) L
  exact rexpand_calls K t d h1 hv hK (good_of h0) L.l8
theorem exp_calls {w : World} (t : S27) (d : D27) (hr : R27 w t d) (h : smallB t = true) : Calls Try.prog 25 #[.agg (cells27 t d)] w fun e w' => ∃ v, e = .returned (.tuple #[v, .int .i64 (chkV t)]) ∧ Kd.S k48 48 w' w.heap.size (fun _ => True) v (if chkV t = 0 then entsT t else []) ∧ Below w.heap.size w w' := by
  obtain ⟨L, -, -⟩ := lens_of h
  by_cases h0 : chkV t = 0
  · obtain ⟨K, h1, h2, h9, hE⟩ := exp_ev (good_of h0) L
    have := expand_calls K t d hr (chkV t) (fun w1 h1 => chk_calls t d h1 h) (valG t.f1) (valG t.f2) (valG t.f9) (msF t.f7) (fun _ => h1) (fun _ => h2) (fun _ => h9) (fun _ => hE)
    rw [outs3_eq (good_of h0)] at this
    exact this
  · have := expand_calls 0 t d hr (chkV t) (fun w1 h1 => chk_calls t d h1 h) [] [] [] (msF t.f7) (fun h => absurd h h0) (fun h => absurd h h0) (fun h => absurd h h0) (fun h => absurd h h0)
    rw [if_neg h0] at this
    rw [if_neg h0]
    exact this
def table_Expand.f (a0_0 : Int) (l0_1 : List S83) (l0_2 : List S83) (l0_3 : List Int) (a0_4 : Bool) (a0_5 : Int) (l0_6 : List Int) (l0_7 : List S86) (l0_8 : List Int) (l0_9 : List S83) (l0_10 : List (List Int)) : Option (List S48 × Int) := if smallB (⟨a0_0, l0_1, l0_2, l0_3, a0_4, a0_5, l0_6, l0_7, l0_8, l0_9, l0_10⟩ : S27) = true then some (if chkV (⟨a0_0, l0_1, l0_2, l0_3, a0_4, a0_5, l0_6, l0_7, l0_8, l0_9, l0_10⟩ : S27) = 0 then entsT (⟨a0_0, l0_1, l0_2, l0_3, a0_4, a0_5, l0_6, l0_7, l0_8, l0_9, l0_10⟩ : S27) else [], chkV (⟨a0_0, l0_1, l0_2, l0_3, a0_4, a0_5, l0_6, l0_7, l0_8, l0_9, l0_10⟩ : S27)) else none
theorem table_Expand.calls (a0_0 : Int) (A0_1 : Option Addr) (c0_1 : Nat) (l0_1 : List S83) (A0_2 : Option Addr) (c0_2 : Nat) (l0_2 : List S83) (A0_3 : Option Addr) (c0_3 : Nat) (l0_3 : List Int) (a0_4 : Bool) (a0_5 : Int) (A0_6 : Option Addr) (c0_6 : Nat) (l0_6 : List Int) (A0_7 : Option Addr) (c0_7 : Nat) (l0_7 : List S86) (A0_8 : Option Addr) (c0_8 : Nat) (l0_8 : List Int) (A0_9 : Option Addr) (c0_9 : Nat) (l0_9 : List S83) (A0_10 : Option Addr) (c0_10 : Nat) (l0_10 : List (List Int)) (r1 : List S48) (r2 : Int) (w : World) (hr0_1 : Kd.C k83 w A0_1 l0_1.length l0_1) (hc0_1 : l0_1.length ≤ c0_1) (hr0_2 : Kd.C k83 w A0_2 l0_2.length l0_2) (hc0_2 : l0_2.length ≤ c0_2) (hr0_3 : Kd.C (Kd.int .i64) w A0_3 l0_3.length l0_3) (hc0_3 : l0_3.length ≤ c0_3) (hr0_6 : Kd.C (Kd.int .i64) w A0_6 l0_6.length l0_6) (hc0_6 : l0_6.length ≤ c0_6) (hr0_7 : Kd.C k86 w A0_7 l0_7.length l0_7) (hc0_7 : l0_7.length ≤ c0_7) (hr0_8 : Kd.C (Kd.int .i64) w A0_8 l0_8.length l0_8) (hc0_8 : l0_8.length ≤ c0_8) (hr0_9 : Kd.C k83 w A0_9 l0_9.length l0_9) (hc0_9 : l0_9.length ≤ c0_9) (hr0_10 : Kd.C (Kd.slice 3 (Kd.int .i64)) w A0_10 l0_10.length l0_10) (hc0_10 : l0_10.length ≤ c0_10) (h : table_Expand.f a0_0 l0_1 l0_2 l0_3 a0_4 a0_5 l0_6 l0_7 l0_8 l0_9 l0_10 = some (r1, r2)) :
    Calls Try.prog 25 #[.agg #[.int .i64 a0_0, .slice A0_1 l0_1.length c0_1, .slice A0_2 l0_2.length c0_2, .slice A0_3 l0_3.length c0_3, .bool a0_4, .int .i64 a0_5, .slice A0_6 l0_6.length c0_6, .slice A0_7 l0_7.length c0_7, .slice A0_8 l0_8.length c0_8, .slice A0_9 l0_9.length c0_9, .slice A0_10 l0_10.length c0_10]] w fun e w' => ∃ v0_ : Value, e = .returned (.tuple #[v0_, .int .i64 r2]) ∧ Kd.S k48 48 w' w.heap.size (fun _ => True) v0_ r1 ∧ Below w.heap.size w w' := by
  unfold table_Expand.f at h
  by_cases hs : smallB (⟨a0_0, l0_1, l0_2, l0_3, a0_4, a0_5, l0_6, l0_7, l0_8, l0_9, l0_10⟩ : S27) = true
  · rw [if_pos hs] at h
    cases h
    exact exp_calls (⟨a0_0, l0_1, l0_2, l0_3, a0_4, a0_5, l0_6, l0_7, l0_8, l0_9, l0_10⟩ : S27) (⟨A0_1, c0_1, A0_2, c0_2, A0_3, c0_3, A0_6, c0_6, A0_7, c0_7, A0_8, c0_8, A0_9, c0_9, A0_10, c0_10⟩ : D27) ⟨hr0_1, hr0_2, hr0_3, hr0_6, hr0_7, hr0_8, hr0_9, hr0_10, hc0_1, hc0_2, hc0_3, hc0_6, hc0_7, hc0_8, hc0_9, hc0_10⟩ hs
  · rw [if_neg hs] at h
    cases h
def dioramaref09_Expand.f (a0_0 : Int) (l0_1 : List S83) (l0_2 : List S83) (l0_3 : List Int) (a0_4 : Bool) (a0_5 : Int) (l0_6 : List Int) (l0_7 : List S86) (l0_8 : List Int) (l0_9 : List S83) (l0_10 : List (List Int)) : Option (List S51 × Int) := if smallB (⟨a0_0, l0_1, l0_2, l0_3, a0_4, a0_5, l0_6, l0_7, l0_8, l0_9, l0_10⟩ : S27) = true then some (if chkV (⟨a0_0, l0_1, l0_2, l0_3, a0_4, a0_5, l0_6, l0_7, l0_8, l0_9, l0_10⟩ : S27) = 0 then entsR (⟨a0_0, l0_1, l0_2, l0_3, a0_4, a0_5, l0_6, l0_7, l0_8, l0_9, l0_10⟩ : S27) else [], chkV (⟨a0_0, l0_1, l0_2, l0_3, a0_4, a0_5, l0_6, l0_7, l0_8, l0_9, l0_10⟩ : S27)) else none
theorem dioramaref09_Expand.calls (a0_0 : Int) (A0_1 : Option Addr) (c0_1 : Nat) (l0_1 : List S83) (A0_2 : Option Addr) (c0_2 : Nat) (l0_2 : List S83) (A0_3 : Option Addr) (c0_3 : Nat) (l0_3 : List Int) (a0_4 : Bool) (a0_5 : Int) (A0_6 : Option Addr) (c0_6 : Nat) (l0_6 : List Int) (A0_7 : Option Addr) (c0_7 : Nat) (l0_7 : List S86) (A0_8 : Option Addr) (c0_8 : Nat) (l0_8 : List Int) (A0_9 : Option Addr) (c0_9 : Nat) (l0_9 : List S83) (A0_10 : Option Addr) (c0_10 : Nat) (l0_10 : List (List Int)) (r1 : List S51) (r2 : Int) (w : World) (hr0_1 : Kd.C k83 w A0_1 l0_1.length l0_1) (hc0_1 : l0_1.length ≤ c0_1) (hr0_2 : Kd.C k83 w A0_2 l0_2.length l0_2) (hc0_2 : l0_2.length ≤ c0_2) (hr0_3 : Kd.C (Kd.int .i64) w A0_3 l0_3.length l0_3) (hc0_3 : l0_3.length ≤ c0_3) (hr0_6 : Kd.C (Kd.int .i64) w A0_6 l0_6.length l0_6) (hc0_6 : l0_6.length ≤ c0_6) (hr0_7 : Kd.C k86 w A0_7 l0_7.length l0_7) (hc0_7 : l0_7.length ≤ c0_7) (hr0_8 : Kd.C (Kd.int .i64) w A0_8 l0_8.length l0_8) (hc0_8 : l0_8.length ≤ c0_8) (hr0_9 : Kd.C k83 w A0_9 l0_9.length l0_9) (hc0_9 : l0_9.length ≤ c0_9) (hr0_10 : Kd.C (Kd.slice 3 (Kd.int .i64)) w A0_10 l0_10.length l0_10) (hc0_10 : l0_10.length ≤ c0_10) (h : dioramaref09_Expand.f a0_0 l0_1 l0_2 l0_3 a0_4 a0_5 l0_6 l0_7 l0_8 l0_9 l0_10 = some (r1, r2)) :
    Calls Try.prog 26 #[.agg #[.int .i64 a0_0, .slice A0_1 l0_1.length c0_1, .slice A0_2 l0_2.length c0_2, .slice A0_3 l0_3.length c0_3, .bool a0_4, .int .i64 a0_5, .slice A0_6 l0_6.length c0_6, .slice A0_7 l0_7.length c0_7, .slice A0_8 l0_8.length c0_8, .slice A0_9 l0_9.length c0_9, .slice A0_10 l0_10.length c0_10]] w fun e w' => ∃ v0_ : Value, e = .returned (.tuple #[v0_, .int .i64 r2]) ∧ Kd.S k51 51 w' w.heap.size (fun _ => True) v0_ r1 ∧ Below w.heap.size w w' := by
  unfold dioramaref09_Expand.f at h
  by_cases hs : smallB (⟨a0_0, l0_1, l0_2, l0_3, a0_4, a0_5, l0_6, l0_7, l0_8, l0_9, l0_10⟩ : S27) = true
  · rw [if_pos hs] at h
    cases h
    exact rexp_calls (⟨a0_0, l0_1, l0_2, l0_3, a0_4, a0_5, l0_6, l0_7, l0_8, l0_9, l0_10⟩ : S27) (⟨A0_1, c0_1, A0_2, c0_2, A0_3, c0_3, A0_6, c0_6, A0_7, c0_7, A0_8, c0_8, A0_9, c0_9, A0_10, c0_10⟩ : D27) ⟨hr0_1, hr0_2, hr0_3, hr0_6, hr0_7, hr0_8, hr0_9, hr0_10, hc0_1, hc0_2, hc0_3, hc0_6, hc0_7, hc0_8, hc0_9, hc0_10⟩ hs
  · rw [if_neg hs] at h
    cases h
end Go.Proofs.Ytmbhafgnmdfjhaa.QTab
