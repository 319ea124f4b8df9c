/- A lemma file: the law BitmapForgets, walked. No condition. -/
import Derived.Test.YtaebgjdaoloceaaQBmpFx4
import Derived.Test.YtaebgjdaoloceaaQBmpFx4
import Derived.Test.YtaebgjdaoloceaaQBmpFx4
import Derived.Test.YtaebgjdaoloceaaQBmpFx2
import Derived.Test.YtaebgjdaoloceaaQBmpFx2
import Derived.Deep.RegionHeld3
namespace Go.Proofs.Ytaebgjdaoloceaa.QBmpF
open Go.RowKit Go.Proofs.YtaebgjdaoloceaaW.PrintWords Go.Proofs.YtaebgjdaoloceaaW.PrintLast Go.Proofs.YtaebgjdaoloceaaW.PrintMore Go.Proofs.YtaebgjdaoloceaaV
set_option linter.unusedVariables false
set_option linter.unusedSimpArgs false
/-- Two variables in memory, and their rows. -/
structure Two (w0 w : World) (g1 g2 : Nat) (p q : Int) (A B : Option Addr) (ca cb : Nat) (la lb : List Int) (p' q' : Int) (A' B' : Option Addr) (ca' cb' : Nat) (la' lb' : List Int) : Prop where
  b : Below w0.heap.size w0 w
  k1 : w.heap[g1]? = some (.cells #[.int .i64 p, .int .i64 q, .slice A la.length ca, .slice B lb.length cb] 38 (0, 0))
  k2 : w.heap[g2]? = some (.cells #[.int .i64 p', .int .i64 q', .slice A' la'.length ca', .slice B' lb'.length cb'] 38 (0, 0))
  a : Kd.C (Kd.int .i64) w A la.length la
  a' : Kd.C (Kd.int .i64) w A' la'.length la'
  d : Kd.C (Kd.int .i64) w B lb.length lb
  d' : Kd.C (Kd.int .i64) w B' lb'.length lb'
theorem Two.step {w0 w w' : World} {g1 g2 : Nat} {p q : Int} {A B : Option Addr} {ca cb : Nat} {la lb : List Int} {p' q' : Int} {A' B' : Option Addr} {ca' cb' : Nat} {la' lb' : List Int} (h : Two w0 w g1 g2 p q A B ca cb la lb p' q' A' B' ca' cb' la' lb') (hb : Below w.heap.size w w') : Two w0 w' g1 g2 p q A B ca cb la lb p' q' A' B' ca' cb' la' lb' :=
  ⟨below_step h.b hb, blk_below h.k1 hb, blk_below h.k2 hb, Kd.C_below h.a hb, Kd.C_below h.a' hb, Kd.C_below h.d hb, Kd.C_below h.d' hb⟩
theorem Two.drew {w0 w : World} {g1 g2 : Nat} {p q : Int} {A B : Option Addr} {ca cb : Nat} {la lb : List Int} {p' q' : Int} {A' B' : Option Addr} {ca' cb' : Nat} {la' lb' : List Int} (h : Two w0 w g1 g2 p q A B ca cb la lb p' q' A' B' ca' cb' la' lb') : Two w0 w.drew g1 g2 p q A B ca cb la lb p' q' A' B' ca' cb' la' lb' :=
  h.step (below_drew (Below.refl _ _))
theorem Two.all {w0 w : World} {g1 g2 : Nat} {p q : Int} {A B : Option Addr} {ca cb : Nat} {la lb : List Int} {p' q' : Int} {A' B' : Option Addr} {ca' cb' : Nat} {la' lb' : List Int} (h : Two w0 w g1 g2 p q A B ca cb la lb p' q' A' B' ca' cb' la' lb') :
    w.cell? ⟨g1, 0, none⟩ = some (.int .i64 p) ∧ w.cell? ⟨g1, 1, none⟩ = some (.int .i64 q) ∧ w.cell? ⟨g1, 2, none⟩ = some (.slice A la.length ca) ∧ w.cell? ⟨g1, 3, none⟩ = some (.slice B lb.length cb) ∧
    w.cell? ⟨g2, 0, none⟩ = some (.int .i64 p') ∧ w.cell? ⟨g2, 1, none⟩ = some (.int .i64 q') ∧ w.cell? ⟨g2, 2, none⟩ = some (.slice A' la'.length ca') ∧ w.cell? ⟨g2, 3, none⟩ = some (.slice B' lb'.length cb') ∧ Two w0 w g1 g2 p q A B ca cb la lb p' q' A' B' ca' cb' la' lb' :=
  ⟨(blk_cell h.k1 0).trans rfl, (blk_cell h.k1 1).trans rfl, (blk_cell h.k1 2).trans rfl, (blk_cell h.k1 3).trans rfl, (blk_cell h.k2 0).trans rfl, (blk_cell h.k2 1).trans rfl, (blk_cell h.k2 2).trans rfl, (blk_cell h.k2 3).trans rfl, h⟩
theorem heap_k91 : Kd.Heap k91 := Kd.heap_iso _ (Kd.heap_pair (Kd.heap_int _) (Kd.heap_pair (Kd.heap_int _) (Kd.heap_pair (Kd.heap_int _) (Kd.heap_pair (Kd.heap_int _) (Kd.heap_slice _ (Kd.heap_int _))))))
theorem heap_k51 : Kd.Heap k51 := Kd.heap_iso _ (Kd.heap_pair Kd.heap_bool (Kd.heap_pair (Kd.heap_slice _ (Kd.heap_int _)) (Kd.heap_slice _ heap_k91)))
theorem reps1 {α : Type} {R : α → List Value → Prop} {p : α} {cs : List Value} (h : R p cs) : Reps R cs.length [p] cs := by
  refine ⟨by simp, fun j q hj => ?_⟩
  rcases j with _ | j
  · simp at hj
    subst hj
    simpa using h
  · simp at hj
set_option maxRecDepth 100000 in
set_option maxHeartbeats 2000000 in
theorem forgets_walk {w : World} (k : Nat) (A0 : Option Addr) (c0 : Nat) (l0 : List S51) (cl : Bool) (A1 : Option Addr) (c1 : Nat) (l1 : List Int) (A2 : Option Addr) (c2 : Nat) (l2 : List S91) (A3 : Option Addr) (c3 : Nat) (l3 : List S51) (wd hi : Int)
    (hr0 : Kd.C k51 w A0 l0.length l0) (hc0 : l0.length ≤ c0) (hr1 : Kd.C (Kd.int .i64) w A1 l1.length l1) (hc1 : l1.length ≤ c1) (hr2 : Kd.C k91 w A2 l2.length l2) (hc2 : l2.length ≤ c2) (hr3 : Kd.C k51 w A3 l3.length l3) (hc3 : l3.length ≤ c3)
    (h1 : dioramalaw19_pages.f k l0 = some true) (h2 : dioramalaw19_pages.f k l3 = some true) (h3 : dioramalaw19_small.f k cl l1 l2 = some true) (hn : ¬ l1.length = 0) (hl0 : l0.length ≤ 12) (hl3 : l3.length ≤ 12)
    (x1 x2 : Int) (x3 x4 : List Int) (x5 : Int) (h4 : bitmap_Compose.f k ([⟨true, l1, l2⟩] ++ l3) wd hi = some (x1, x2, x3, x4, x5)) (y1 y2 : Int) (y3 y4 : List Int) (y5 : Int) (h5 : bitmap_Compose.f k (([] ++ l0) ++ ([⟨true, l1, l2⟩] ++ l3)) wd hi = some (y1, y2, y3, y4, y5))
    (h6 : y5 = 0 → (y1, y2, y3, y4, y5) = (x1, x2, x3, x4, x5) ∧ dioramalaw19_same.f k y1 y2 y3 y4 y1 y2 y3 y4 = some true) (h7 : dioramalaw19_awake.f k = some true) :
    Calls Try.prog 5 #[.agg #[.slice A0 l0.length c0, .bool cl, .slice A1 l1.length c1, .slice A2 l2.length c2, .slice A3 l3.length c3, .int .i64 wd, .int .i64 hi]] w fun e w' => e = .returned (.bool true) ∧ Below w.heap.size w w' := by
  have hu1 := Try.underlying53
  have hu2 := Try.underlying51
  have hu3 := Try.underlying38
  have HR0 := Aside0.mk hr0
  have HC0 := Aside0.mk hc0
  have HR1 := Aside0.mk hr1
  have HC1 := Aside0.mk hc1
  have HR2 := Aside0.mk hr2
  have HC2 := Aside0.mk hc2
  have HR3 := Aside0.mk hr3
  have HC3 := Aside0.mk hc3
  have H1 := Aside0.mk h1
  have H2 := Aside0.mk h2
  have H3 := Aside0.mk h3
  have H4_ := Aside0.mk h4
  have H5_ := Aside0.mk h5
  have H6 := Aside0.mk h6
  have H7 := Aside0.mk h7
  clear hr0 hc0 hr1 hc1 hr2 hc2 hr3 hc3 h1 h2 h3 h4 h5 h6 h7
  go_enter Try.func5, Try.ntmps5
  go_wp2_with (first | ((with_reducible refine gate_dst (N := 1) rfl ?_); refine box_event ?hg (N := 1) ?hd (cs := #[.slice A0 l0.length c0, .bool cl, .slice A1 l1.length c1, .slice A2 l2.length c2, .slice A3 l3.length c3, .int .i64 wd, .int .i64 hi]) (t := 53) ?hr ?_; (case hd => rfl); (case hg => rfl); (case hr => first | (go_simp; done) | (go_simp; rfl)); intro g1 hg wa hbox hb; have BB := Aside0.mk (below_step (Below.refl _ _) hb); have GE1 : Aside0 (w.heap.size ≤ g1) := ⟨by rw [hg]; exact Nat.le_refl _⟩; have G1 := Aside0.mk hbox; clear hb hbox hg))
  have D1 := Aside0.mk (show Below w.heap.size w wa.drew ∧ wa.drew.heap[g1]? = some _ from ⟨below_drew BB.out, G1.out⟩)
  clear D1
  obtain ⟨h0, h1, h2, h3, h4, h5, h6, f0, f1, f2, f3, f4, f5, f6⟩ := bcells7 G1.out
  have hnd : (w.heap.size : Nat) = w.heap.size := rfl
  clear hnd
  go_region_held3 (fun w' => w'.cell? ⟨g1, 0, none⟩ = some (.slice A0 l0.length c0) ∧ w'.cell? ⟨g1, 1, none⟩ = some (.bool cl) ∧ w'.cell? ⟨g1, 2, none⟩ = some (.slice A1 l1.length c1) ∧ w'.cell? ⟨g1, 3, none⟩ = some (.slice A2 l2.length c2) ∧ w'.cell? ⟨g1, 4, none⟩ = some (.slice A3 l3.length c3) ∧ w'.cell? ⟨g1, 5, none⟩ = some (.int .i64 wd) ∧ w'.cell? ⟨g1, 6, none⟩ = some (.int .i64 hi)) (go_keep) (fail)
  clear h0 h1 h2 h3 h4 h5 h6 f0 f1 f2 f3 f4 f5 f6
  rename_i hHeld
  clear hHeld
  generalize hw2 : (wa.alloc (.cells #[.bool cl, .slice A1 l1.length c1, .slice A2 l2.length c2] 51)).drew = w2
  generalize hg2 : wa.heap.size = g2
  have B2 : Aside0 (Below w.heap.size w w2) := ⟨by rw [← hw2]; exact below_drew (below_alloc BB.out _)⟩
  have G2 : Aside0 (w2.heap[g2]? = some (.cells #[.bool cl, .slice A1 l1.length c1, .slice A2 l2.length c2] 51 (0, 0))) := ⟨by rw [← hw2, ← hg2]; exact blk_drew (blk_new wa _)⟩
  have GE2 : Aside0 (w.heap.size ≤ g2) := ⟨by rw [← hg2]; exact BB.out.size⟩
  clear hw2 hg2 BB G1 GE1
  go_wp2_with fail
  refine (dioramalaw19_pages.calls k A0 c0 l0 true w2 (Kd.C_below HR0.out B2.out) HC0.out H1.out).mono ?_
  rintro e w3 ⟨rfl, hb⟩
  have B3 := Aside0.mk (below_step B2.out hb)
  have G3 := Aside0.mk (blk_below G2.out hb)
  clear B2 G2 hb
  go_wp2_with fail
  refine (dioramalaw19_pages.calls k A3 c3 l3 true w3 (Kd.C_below HR3.out B3.out) HC3.out H2.out).mono ?_
  rintro e w4 ⟨rfl, hb⟩
  have B4 := Aside0.mk (below_step B3.out hb)
  have G4 := Aside0.mk (blk_below G3.out hb)
  clear B3 G3 hb
  obtain ⟨h0, h1, h2, f0, f1, f2⟩ := bcells3 G4.out
  go_wp2_with fail
  clear h0 h1 h2 f0 f1 f2
  refine (dioramalaw19_small.calls k cl A1 c1 l1 A2 c2 l2 true w4 (Kd.C_below HR1.out B4.out) HC1.out (Kd.C_below HR2.out B4.out) HC2.out H3.out).mono ?_
  rintro e w5 ⟨rfl, hb⟩
  have B5 := Aside0.mk (below_step B4.out hb)
  have G5 := Aside0.mk (blk_below G4.out hb)
  clear B4 G4 hb
  obtain ⟨h0, h1, h2, f0, f1, f2⟩ := bcells3 G5.out
  obtain ⟨w6, hw6⟩ : ∃ wz, w5.setCell ⟨g2, 0, none⟩ (.bool true) = wz := ⟨_, rfl⟩
  have B6 : Aside0 (Below w.heap.size w w6) := ⟨by rw [← hw6]; exact below_set B5.out GE2.out⟩
  have G6 : Aside0 (w6.heap[g2]? = some (.cells #[.bool true, .slice A1 l1.length c1, .slice A2 l2.length c2] 51 (0, 0))) := ⟨by rw [← hw6]; exact blk_put G5.out 0 _ rfl⟩
  obtain ⟨h0', h1', h2', f0', f1', f2'⟩ := bcells3 G6.out
  have hp1 : ((l1.length : Int) == 0) = false := by simp; intro h; exact hn (by rw [h]; rfl)
  have hp2 : (l1.length == 0) = false := by simpa using hn
  have HL : Aside0 (l0.length ≤ 12 ∧ l3.length ≤ 12) := ⟨⟨hl0, hl3⟩⟩
  clear hn hl0 hl3 B5 G5
  obtain ⟨sh, hsh⟩ : ∃ sh, [(⟨true, l1, l2⟩ : S51)] ++ l3 = sh := ⟨_, rfl⟩
  obtain ⟨lo, hlo⟩ : ∃ lo, ([] ++ l0) ++ sh = lo := ⟨_, rfl⟩
  have HSH := Aside0.mk hsh
  have HLO := Aside0.mk hlo
  have HSL : Aside0 (sh.length ≤ 13) := ⟨by rw [← hsh]; have := HL.out; simp; omega⟩
  have H4 : Aside0 (bitmap_Compose.f k sh wd hi = some (x1, x2, x3, x4, x5)) := ⟨by rw [← hsh]; exact H4_.out⟩
  have H5 : Aside0 (bitmap_Compose.f k lo wd hi = some (y1, y2, y3, y4, y5)) := ⟨by rw [← hlo, ← hsh]; exact H5_.out⟩
  clear hsh hlo H4_ H5_
  have info51 : (Try.prog.info? 51).map (fun i => (i.zero, i.size, i.bytes)) = some (some (.agg #[.bool false, .slice none 0 0, .slice none 0 0]), 3, 56) := by kernel_rfl
  have FP : Aside0 (Kd.FK k51 w6 (fun k_ => k_ < w.heap.size) ⟨true, l1, l2⟩ [.bool true, .slice A1 l1.length c1, .slice A2 l2.length c2]) := ⟨Kd.FK_step (k51_mkF w _ ⟨true, l1, l2⟩ HC1.out (Kd.C_F (Kd.heap_int _) HR1.out) HC2.out (Kd.C_F heap_k91 HR2.out)) (fun k_ hk _ => B6.out.block k_ hk)⟩
  have FA0 : Aside0 (∀ W, Below w.heap.size w W → Kd.F k51 W (fun k_ => k_ < w.heap.size) A0 l0.length l0) := ⟨fun W hW => Kd.F_step (Kd.C_F heap_k51 HR0.out) (fun k_ hk _ => hW.block k_ hk)⟩
  have FA3 : Aside0 (∀ W, Below w.heap.size w W → Kd.F k51 W (fun k_ => k_ < w.heap.size) A3 l3.length l3) := ⟨fun W hW => Kd.F_step (Kd.C_F heap_k51 HR3.out) (fun k_ hk _ => hW.block k_ hk)⟩
  go_wp2_with (first
    | ((with_reducible refine gate_dst (N := 44) rfl ?_); refine Kd.N_lit k51 (w0 := w) w.heap.size 51 ?hg (N' := 44) ?hd (xs := [⟨true, l1, l2⟩]) (inner := [.bool true, .slice A1 l1.length c1, .slice A2 l2.length c2]) (ok := fun _ => True) (okp := fun k_ => k_ < w.heap.size) ?hr ?hp (fun _ _ => trivial) trivial B6.out B6.out.size (by simp) ?_; (case hd => rfl); (case hg => rfl); (case hr => first | (go_simp; done) | (go_simp; rfl)); (case hp => exact reps1 FP.out); intro v1 w7 hN hb hg hat; have N7 := Aside0.mk hN; have B7 := Aside0.mk hb; have AT7 := Aside0.mk hat; clear hN hb hg hat)
    | ((with_reducible refine gate_builtin (b := .append) (xs := #[.tmp 44, .tmp 45]) rfl ?_); at_builtin; refine Kd.N_append_rows k51 (w0 := w) w.heap.size rfl (.tmp 44) (.tmp 45) 35 51 (.agg #[.bool false, .slice none 0 0, .slice none 0 0]) 56 rfl Try.underlying35 info51 rfl (by decide) (by omega) v1 [⟨true, l1, l2⟩] l3 A3 l3.length c3 (fun _ => True) (fun k_ => k_ < w.heap.size) rfl rfl N7.out (FA3.out w7 B7.out) (fun k_ hk => ⟨trivial, fun e => by obtain ⟨b, hb1, hb2⟩ := AT7.out; rw [hb1] at e; injection e with e; have := B6.out.size; omega⟩) (fun _ _ => trivial) B7.out B7.out.size (by have := HL.out; simp; omega) ?_; intro v2 w8 hN hb hg hat; rw [HSH.out] at hN; obtain ⟨As, cs, rfl⟩ := Kd.N_slice hN; have RS := Aside0.mk (Kd.N_reads' hN); have FS := Aside0.mk (Kd.F_bound (Kd.N_F hN)); have B8 := Aside0.mk hb; clear hN hb hg hat)
    | ((with_reducible refine gate_dst (N := 47) rfl ?_); refine Kd.N_lit k51 (w0 := w) w.heap.size 51 ?hg (N' := 47) ?hd (xs := ([] : List S51)) (inner := []) (ok := fun _ => True) (okp := fun k_ => k_ < w.heap.size) ?hr ?hp (fun _ _ => trivial) trivial B8.out B8.out.size (by simp) ?_; (case hd => rfl); (case hg => rfl); (case hr => first | (go_simp; done) | (go_simp; rfl)); (case hp => exact Reps.none _ _); intro v3 w9 hN hb hg hat; have N9 := Aside0.mk hN; have B9 := Aside0.mk hb; have AT9 := Aside0.mk hat; have SZ9 := Aside0.mk hg.size; have FS9 := Aside0.mk (Kd.F_step FS.out (fun k_ _ hlt => hg.block k_ hlt (by simp))); clear hN hb hg hat)
    | ((with_reducible refine gate_builtin (b := .append) (xs := #[.tmp 47, .tmp 48]) rfl ?_); at_builtin; refine Kd.N_append_rows k51 (w0 := w) w.heap.size rfl (.tmp 47) (.tmp 48) 35 51 (.agg #[.bool false, .slice none 0 0, .slice none 0 0]) 56 rfl Try.underlying35 info51 rfl (by decide) (by omega) v3 [] l0 A0 l0.length c0 (fun _ => True) (fun k_ => k_ < w.heap.size) rfl rfl N9.out (FA0.out w9 B9.out) (fun k_ hk => ⟨trivial, fun e => by obtain ⟨b, hb1, hb2⟩ := AT9.out; rw [hb1] at e; injection e with e; have := B8.out.size; omega⟩) (fun _ _ => trivial) B9.out B9.out.size (by have := HL.out; simp; omega) ?_; intro v4 w10 hN hb hg hat; have N10 := Aside0.mk hN; have B10 := Aside0.mk hb; have AT10 := Aside0.mk hat; have SZ10 := Aside0.mk hg.size; have FS10 := Aside0.mk (Kd.F_step FS9.out (fun k_ hk hlt => hg.block k_ hlt (fun e => by obtain ⟨b, hb1, hb2⟩ := AT9.out; rw [hb1] at e; injection e with e; have := hk.2; omega))); clear hN hb hg hat)
    | ((with_reducible refine gate_builtin (b := .append) (xs := #[.tmp 49, .tmp 50]) rfl ?_); at_builtin; refine Kd.N_append_rows k51 (w0 := w) w.heap.size rfl (.tmp 49) (.tmp 50) 35 51 (.agg #[.bool false, .slice none 0 0, .slice none 0 0]) 56 rfl Try.underlying35 info51 rfl (by decide) (by omega) v4 ([] ++ l0) sh As sh.length cs (fun _ => True) (fun k_ => True ∧ k_ < w8.heap.size) rfl rfl N10.out FS10.out (fun k_ hk => ⟨trivial, fun e => by rcases AT10.out with ha | ⟨b, hb1, hb2⟩; (obtain ⟨b, hb1, hb2⟩ := AT9.out; rw [ha, hb1] at e; injection e with e; have := hk.2; omega); (rw [hb1] at e; injection e with e; have := hk.2; have := SZ9.out; omega)⟩) (fun _ _ => trivial) B10.out B10.out.size (by have := HL.out; have := HSL.out; simp; omega) ?_; intro v5 w11 hN hb hg hat; rw [HLO.out] at hN; obtain ⟨Al, cll, rfl⟩ := Kd.N_slice hN; have RL := Aside0.mk (Kd.N_reads' hN); have B11 := Aside0.mk hb; have FS11 := Aside0.mk (Kd.F_step FS10.out (fun k_ hk hlt => hg.block k_ hlt (fun e => by rcases AT10.out with ha | ⟨b, hb1, hb2⟩; (obtain ⟨b, hb1, hb2⟩ := AT9.out; rw [ha, hb1] at e; injection e with e; have := hk.2; omega); (rw [hb1] at e; injection e with e; have := hk.2; have := SZ9.out; omega)))); clear hN hb hg hat))
  clear hw6 h0 h1 h2 f0 f1 f2 h0' h1' h2' f0' f1' f2' hp1 hp2
  refine (bitmap_Compose.calls k As cs sh wd hi x1 x2 x3 x4 x5 w11 (Kd.F_now FS11.out) RS.out.2.1 H4.out).mono ?_
  rintro e w12 ⟨v6, v7, rfl, s6, s7, hb⟩
  obtain ⟨Aa, ca, rfl⟩ := Kd.R_slice s6
  obtain ⟨Ab, cb, rfl⟩ := Kd.R_slice s7
  have La := Aside0.mk (Kd.R_reads' s6).2.1
  have Lb := Aside0.mk (Kd.R_reads' s7).2.1
  have Qa := Aside0.mk (Kd.R_reads' s6).2.2
  have Qb := Aside0.mk (Kd.R_reads' s7).2.2
  have B12 := Aside0.mk (below_step B11.out hb)
  have RL12 := Aside0.mk (Kd.C_below RL.out.2.2 hb)
  have LL := Aside0.mk RL.out.2.1
  clear s6 s7 hb
  obtain ⟨w13, hw1⟩ : ∃ wz, w12.alloc (.cells #[.int .i64 x1, .int .i64 x2, .slice Aa x3.length ca, .slice Ab x4.length cb] 38) = wz := ⟨_, rfl⟩
  obtain ⟨g3, hg1⟩ : ∃ rz, w12.heap.size = rz := ⟨_, rfl⟩
  have B13 : Aside0 (Below w.heap.size w w13) := ⟨by rw [← hw1]; exact below_alloc B12.out _⟩
  have G13 : Aside0 (w13.heap[g3]? = some (.cells #[.int .i64 x1, .int .i64 x2, .slice Aa x3.length ca, .slice Ab x4.length cb] 38 (0, 0))) := ⟨by rw [← hw1, ← hg1]; exact blk_new w12 _⟩
  have Ra : Aside0 (Kd.C (Kd.int .i64) w13 Aa x3.length x3) := ⟨by rw [← hw1]; exact Kd.C_alloc Qa.out _⟩
  have Rb : Aside0 (Kd.C (Kd.int .i64) w13 Ab x4.length x4) := ⟨by rw [← hw1]; exact Kd.C_alloc Qb.out _⟩
  have RL13 : Aside0 (Kd.C k51 w13 Al lo.length lo) := ⟨by rw [← hw1]; exact Kd.C_alloc RL12.out _⟩
  go_wp2_with fail
  clear hw1 hg1 Qa Qb B12 RL12
  refine (bitmap_Compose.calls k Al cll lo wd hi y1 y2 y3 y4 y5 w13 RL13.out LL.out H5.out).mono ?_
  rintro e w14 ⟨v6, v7, rfl, s6, s7, hb⟩
  obtain ⟨Ac, cc, rfl⟩ := Kd.R_slice s6
  obtain ⟨Ad, cd, rfl⟩ := Kd.R_slice s7
  have Lc := Aside0.mk (Kd.R_reads' s6).2.1
  have Ld := Aside0.mk (Kd.R_reads' s7).2.1
  have Qc := Aside0.mk (Kd.R_reads' s6).2.2
  have Qd := Aside0.mk (Kd.R_reads' s7).2.2
  have B14 := Aside0.mk (below_step B13.out hb)
  obtain ⟨w15, hw1⟩ : ∃ wz, w14.alloc (.cells #[.int .i64 y1, .int .i64 y2, .slice Ac y3.length cc, .slice Ad y4.length cd] 38) = wz := ⟨_, rfl⟩
  obtain ⟨g4, hg1⟩ : ∃ rz, w14.heap.size = rz := ⟨_, rfl⟩
  have T15 : Aside0 (Two w w15 g3 g4 x1 x2 Aa Ab ca cb x3 x4 y1 y2 Ac Ad cc cd y3 y4) := ⟨by
    rw [← hw1, ← hg1]
    exact ⟨below_alloc B14.out _, blk_alloc (blk_below G13.out hb) _, blk_new w14 _, Kd.C_alloc (Kd.C_below Ra.out hb) _, Kd.C_alloc Qc.out _, Kd.C_alloc (Kd.C_below Rb.out hb) _, Kd.C_alloc Qd.out _⟩⟩
  clear s6 s7 hb Qc Qd Ra Rb G13 B13 RL13
  by_cases hy : y5 = 0
  · obtain ⟨hxy, hsm⟩ := H6.out hy
    cases hxy
    have HSM := Aside0.mk hsm
    subst hy
    clear hsm
    go_wp2_with fail
    clear hw1 hg1
    have KEEP := Aside0.mk (Two.all (Two.drew T15.out))
    have hE : ((0 : Int) != 0) = false := by decide
    have hE2 : ((0 : Int) == 0) = true := by decide
    go_region_held3 (fun w' => w'.cell? ⟨g3, 0, none⟩ = some (.int .i64 x1) ∧ w'.cell? ⟨g3, 1, none⟩ = some (.int .i64 x2) ∧ w'.cell? ⟨g3, 2, none⟩ = some (.slice Aa x3.length ca) ∧ w'.cell? ⟨g3, 3, none⟩ = some (.slice Ab x4.length cb) ∧ w'.cell? ⟨g4, 0, none⟩ = some (.int .i64 x1) ∧ w'.cell? ⟨g4, 1, none⟩ = some (.int .i64 x2) ∧ w'.cell? ⟨g4, 2, none⟩ = some (.slice Ac x3.length cc) ∧ w'.cell? ⟨g4, 3, none⟩ = some (.slice Ad x4.length cd) ∧ Two w w' g3 g4 x1 x2 Aa Ab ca cb x3 x4 x1 x2 Ac Ad cc cd x3 x4) (first | exact KEEP.out | go_keep) (first
      | (go_at_call 22; have HS_ := (show _ ∧ _ ∧ _ ∧ _ ∧ _ ∧ _ ∧ _ ∧ _ ∧ Two w _ g3 g4 _ _ _ _ _ _ _ _ _ _ _ _ _ _ _ _ from by assumption).2.2.2.2.2.2.2.2; (with_reducible refine (dioramalaw19_ours.calls x1 x2 Aa ca x3 Ab cb x4 0 _ HS_.a La.out HS_.d Lb.out rfl).mono ?_); rintro e wq ⟨rfl, hb⟩; have KEEP := Aside0.mk (Two.all (Two.step HS_ hb)); clear HS_ hb)
      | (go_at_call 22; have HS_ := (show _ ∧ _ ∧ _ ∧ _ ∧ _ ∧ _ ∧ _ ∧ _ ∧ Two w _ g3 g4 _ _ _ _ _ _ _ _ _ _ _ _ _ _ _ _ from by assumption).2.2.2.2.2.2.2.2; (with_reducible refine (dioramalaw19_ours.calls x1 x2 Ac cc x3 Ad cd x4 0 _ HS_.a' Lc.out HS_.d' Ld.out rfl).mono ?_); rintro e wq ⟨rfl, hb⟩; have KEEP := Aside0.mk (Two.all (Two.step HS_ hb)); clear HS_ hb)
      | (go_at_call 21; have HS_ := (show _ ∧ _ ∧ _ ∧ _ ∧ _ ∧ _ ∧ _ ∧ _ ∧ Two w _ g3 g4 _ _ _ _ _ _ _ _ _ _ _ _ _ _ _ _ from by assumption).2.2.2.2.2.2.2.2; (with_reducible refine (dioramalaw19_same.calls k x1 x2 Aa ca x3 Ab cb x4 x1 x2 Ac cc x3 Ad cd x4 true _ HS_.a La.out HS_.d Lb.out HS_.a' Lc.out HS_.d' Ld.out HSM.out).mono ?_); rintro e wq ⟨rfl, hb⟩; have KEEP := Aside0.mk (Two.all (Two.step HS_ hb)); clear HS_ hb))
    all_goals (
      have HS_ := (show _ ∧ _ ∧ _ ∧ _ ∧ _ ∧ _ ∧ _ ∧ _ ∧ Two w _ g3 g4 _ _ _ _ _ _ _ _ _ _ _ _ _ _ _ _ from by assumption).2.2.2.2.2.2.2.2
      have BZ := Aside0.mk HS_.b
      clear HS_
      go_wp2_with fail
      refine (dioramalaw19_awake.calls k true _ H7.out).mono ?_
      rintro e w20 ⟨rfl, hb⟩
      have BY := Aside0.mk (below_step BZ.out hb)
      clear hb
      go_wp2_with fail
      go_ret
      exact ⟨rfl, BY.out⟩)
  · have BZ := Aside0.mk T15.out.b
    have hE : (y5 == 0) = false := by simpa using hy
    have hE3 : decide (y5 = 0) = false := decide_eq_false hy
    have hE2 : (y5 != 0) = true := by simpa using hy
    clear hy T15 B14
    go_wp2_with fail
    clear hw1 hg1
    go_quiet (fail)
    have BX := Aside0.mk (pw_below_drewN BZ.out nq)
    go_wp2_with fail
    refine (dioramalaw19_awake.calls k true _ H7.out).mono ?_
    rintro e w20 ⟨rfl, hb⟩
    have BY := Aside0.mk (below_step BX.out hb)
    clear hb
    go_wp2_with fail
    go_ret
    exact ⟨rfl, BY.out⟩
set_option maxRecDepth 100000 in
set_option maxHeartbeats 2000000 in
theorem forgets_a {w : World} (k : Nat) (A0 : Option Addr) (c0 : Nat) (l0 : List S51) (cl : Bool) (A1 : Option Addr) (c1 : Nat) (l1 : List Int) (A2 : Option Addr) (c2 : Nat) (l2 : List S91) (A3 : Option Addr) (c3 : Nat) (l3 : List S51) (wd hi : Int)
    (hr0 : Kd.C k51 w A0 l0.length l0) (hc0 : l0.length ≤ c0) (hr1 : Kd.C (Kd.int .i64) w A1 l1.length l1) (hc1 : l1.length ≤ c1) (hr2 : Kd.C k91 w A2 l2.length l2) (hc2 : l2.length ≤ c2) (hr3 : Kd.C k51 w A3 l3.length l3) (hc3 : l3.length ≤ c3)
    (h1 : dioramalaw19_pages.f k l0 = some false) :
    Calls Try.prog 5 #[.agg #[.slice A0 l0.length c0, .bool cl, .slice A1 l1.length c1, .slice A2 l2.length c2, .slice A3 l3.length c3, .int .i64 wd, .int .i64 hi]] w fun e w' => e = .returned (.bool true) ∧ Below w.heap.size w w' := by
  have hu1 := Try.underlying53
  have hu2 := Try.underlying51
  have hu3 := Try.underlying38
  have HR0 := Aside0.mk hr0
  have HC0 := Aside0.mk hc0
  have HR1 := Aside0.mk hr1
  have HC1 := Aside0.mk hc1
  have HR2 := Aside0.mk hr2
  have HC2 := Aside0.mk hc2
  have HR3 := Aside0.mk hr3
  have HC3 := Aside0.mk hc3
  have H1 := Aside0.mk h1
  clear hr0 hc0 hr1 hc1 hr2 hc2 hr3 hc3 h1
  go_enter Try.func5, Try.ntmps5
  go_wp2_with (first | ((with_reducible refine gate_dst (N := 1) rfl ?_); refine box_event ?hg (N := 1) ?hd (cs := #[.slice A0 l0.length c0, .bool cl, .slice A1 l1.length c1, .slice A2 l2.length c2, .slice A3 l3.length c3, .int .i64 wd, .int .i64 hi]) (t := 53) ?hr ?_; (case hd => rfl); (case hg => rfl); (case hr => first | (go_simp; done) | (go_simp; rfl)); intro g1 hg wa hbox hb; have BB := Aside0.mk (below_step (Below.refl _ _) hb); have GE1 : Aside0 (w.heap.size ≤ g1) := ⟨by rw [hg]; exact Nat.le_refl _⟩; have G1 := Aside0.mk hbox; clear hb hbox hg))
  have D1 := Aside0.mk (show Below w.heap.size w wa.drew ∧ wa.drew.heap[g1]? = some _ from ⟨below_drew BB.out, G1.out⟩)
  clear D1
  obtain ⟨h0, h1, h2, h3, h4, h5, h6, f0, f1, f2, f3, f4, f5, f6⟩ := bcells7 G1.out
  have hnd : (w.heap.size : Nat) = w.heap.size := rfl
  clear hnd
  go_region_held3 (fun w' => w'.cell? ⟨g1, 0, none⟩ = some (.slice A0 l0.length c0) ∧ w'.cell? ⟨g1, 1, none⟩ = some (.bool cl) ∧ w'.cell? ⟨g1, 2, none⟩ = some (.slice A1 l1.length c1) ∧ w'.cell? ⟨g1, 3, none⟩ = some (.slice A2 l2.length c2) ∧ w'.cell? ⟨g1, 4, none⟩ = some (.slice A3 l3.length c3) ∧ w'.cell? ⟨g1, 5, none⟩ = some (.int .i64 wd) ∧ w'.cell? ⟨g1, 6, none⟩ = some (.int .i64 hi)) (go_keep) (fail)
  clear h0 h1 h2 h3 h4 h5 h6 f0 f1 f2 f3 f4 f5 f6
  rename_i hHeld
  clear hHeld
  generalize hw2 : (wa.alloc (.cells #[.bool cl, .slice A1 l1.length c1, .slice A2 l2.length c2] 51)).drew = w2
  generalize hg2 : wa.heap.size = g2
  have B2 : Aside0 (Below w.heap.size w w2) := ⟨by rw [← hw2]; exact below_drew (below_alloc BB.out _)⟩
  have G2 : Aside0 (w2.heap[g2]? = some (.cells #[.bool cl, .slice A1 l1.length c1, .slice A2 l2.length c2] 51 (0, 0))) := ⟨by rw [← hw2, ← hg2]; exact blk_drew (blk_new wa _)⟩
  have GE2 : Aside0 (w.heap.size ≤ g2) := ⟨by rw [← hg2]; exact BB.out.size⟩
  clear hw2 hg2 BB G1 GE1
  go_wp2_with fail
  refine (dioramalaw19_pages.calls k A0 c0 l0 false w2 (Kd.C_below HR0.out B2.out) HC0.out H1.out).mono ?_
  rintro e w3 ⟨rfl, hb⟩
  have B3 := Aside0.mk (below_step B2.out hb)
  have G3 := Aside0.mk (blk_below G2.out hb)
  clear B2 G2 hb
  go_wp2_with fail
  go_ret
  exact ⟨rfl, B3.out⟩
set_option maxRecDepth 100000 in
set_option maxHeartbeats 2000000 in
theorem forgets_b {w : World} (k : Nat) (A0 : Option Addr) (c0 : Nat) (l0 : List S51) (cl : Bool) (A1 : Option Addr) (c1 : Nat) (l1 : List Int) (A2 : Option Addr) (c2 : Nat) (l2 : List S91) (A3 : Option Addr) (c3 : Nat) (l3 : List S51) (wd hi : Int)
    (hr0 : Kd.C k51 w A0 l0.length l0) (hc0 : l0.length ≤ c0) (hr1 : Kd.C (Kd.int .i64) w A1 l1.length l1) (hc1 : l1.length ≤ c1) (hr2 : Kd.C k91 w A2 l2.length l2) (hc2 : l2.length ≤ c2) (hr3 : Kd.C k51 w A3 l3.length l3) (hc3 : l3.length ≤ c3)
    (h1 : dioramalaw19_pages.f k l0 = some true) (h2 : dioramalaw19_pages.f k l3 = some false) :
    Calls Try.prog 5 #[.agg #[.slice A0 l0.length c0, .bool cl, .slice A1 l1.length c1, .slice A2 l2.length c2, .slice A3 l3.length c3, .int .i64 wd, .int .i64 hi]] w fun e w' => e = .returned (.bool true) ∧ Below w.heap.size w w' := by
  have hu1 := Try.underlying53
  have hu2 := Try.underlying51
  have hu3 := Try.underlying38
  have HR0 := Aside0.mk hr0
  have HC0 := Aside0.mk hc0
  have HR1 := Aside0.mk hr1
  have HC1 := Aside0.mk hc1
  have HR2 := Aside0.mk hr2
  have HC2 := Aside0.mk hc2
  have HR3 := Aside0.mk hr3
  have HC3 := Aside0.mk hc3
  have H1 := Aside0.mk h1
  have H2 := Aside0.mk h2
  clear hr0 hc0 hr1 hc1 hr2 hc2 hr3 hc3 h1 h2
  go_enter Try.func5, Try.ntmps5
  go_wp2_with (first | ((with_reducible refine gate_dst (N := 1) rfl ?_); refine box_event ?hg (N := 1) ?hd (cs := #[.slice A0 l0.length c0, .bool cl, .slice A1 l1.length c1, .slice A2 l2.length c2, .slice A3 l3.length c3, .int .i64 wd, .int .i64 hi]) (t := 53) ?hr ?_; (case hd => rfl); (case hg => rfl); (case hr => first | (go_simp; done) | (go_simp; rfl)); intro g1 hg wa hbox hb; have BB := Aside0.mk (below_step (Below.refl _ _) hb); have GE1 : Aside0 (w.heap.size ≤ g1) := ⟨by rw [hg]; exact Nat.le_refl _⟩; have G1 := Aside0.mk hbox; clear hb hbox hg))
  have D1 := Aside0.mk (show Below w.heap.size w wa.drew ∧ wa.drew.heap[g1]? = some _ from ⟨below_drew BB.out, G1.out⟩)
  clear D1
  obtain ⟨h0, h1, h2, h3, h4, h5, h6, f0, f1, f2, f3, f4, f5, f6⟩ := bcells7 G1.out
  have hnd : (w.heap.size : Nat) = w.heap.size := rfl
  clear hnd
  go_region_held3 (fun w' => w'.cell? ⟨g1, 0, none⟩ = some (.slice A0 l0.length c0) ∧ w'.cell? ⟨g1, 1, none⟩ = some (.bool cl) ∧ w'.cell? ⟨g1, 2, none⟩ = some (.slice A1 l1.length c1) ∧ w'.cell? ⟨g1, 3, none⟩ = some (.slice A2 l2.length c2) ∧ w'.cell? ⟨g1, 4, none⟩ = some (.slice A3 l3.length c3) ∧ w'.cell? ⟨g1, 5, none⟩ = some (.int .i64 wd) ∧ w'.cell? ⟨g1, 6, none⟩ = some (.int .i64 hi)) (go_keep) (fail)
  clear h0 h1 h2 h3 h4 h5 h6 f0 f1 f2 f3 f4 f5 f6
  rename_i hHeld
  clear hHeld
  generalize hw2 : (wa.alloc (.cells #[.bool cl, .slice A1 l1.length c1, .slice A2 l2.length c2] 51)).drew = w2
  generalize hg2 : wa.heap.size = g2
  have B2 : Aside0 (Below w.heap.size w w2) := ⟨by rw [← hw2]; exact below_drew (below_alloc BB.out _)⟩
  have G2 : Aside0 (w2.heap[g2]? = some (.cells #[.bool cl, .slice A1 l1.length c1, .slice A2 l2.length c2] 51 (0, 0))) := ⟨by rw [← hw2, ← hg2]; exact blk_drew (blk_new wa _)⟩
  have GE2 : Aside0 (w.heap.size ≤ g2) := ⟨by rw [← hg2]; exact BB.out.size⟩
  clear hw2 hg2 BB G1 GE1
  go_wp2_with fail
  refine (dioramalaw19_pages.calls k A0 c0 l0 true w2 (Kd.C_below HR0.out B2.out) HC0.out H1.out).mono ?_
  rintro e w3 ⟨rfl, hb⟩
  have B3 := Aside0.mk (below_step B2.out hb)
  have G3 := Aside0.mk (blk_below G2.out hb)
  clear B2 G2 hb
  go_wp2_with fail
  refine (dioramalaw19_pages.calls k A3 c3 l3 false w3 (Kd.C_below HR3.out B3.out) HC3.out H2.out).mono ?_
  rintro e w4 ⟨rfl, hb⟩
  have B4 := Aside0.mk (below_step B3.out hb)
  have G4 := Aside0.mk (blk_below G3.out hb)
  clear B3 G3 hb
  go_wp2_with fail
  go_ret
  exact ⟨rfl, B4.out⟩
set_option maxRecDepth 100000 in
set_option maxHeartbeats 2000000 in
theorem forgets_c {w : World} (k : Nat) (A0 : Option Addr) (c0 : Nat) (l0 : List S51) (cl : Bool) (A1 : Option Addr) (c1 : Nat) (l1 : List Int) (A2 : Option Addr) (c2 : Nat) (l2 : List S91) (A3 : Option Addr) (c3 : Nat) (l3 : List S51) (wd hi : Int)
    (hr0 : Kd.C k51 w A0 l0.length l0) (hc0 : l0.length ≤ c0) (hr1 : Kd.C (Kd.int .i64) w A1 l1.length l1) (hc1 : l1.length ≤ c1) (hr2 : Kd.C k91 w A2 l2.length l2) (hc2 : l2.length ≤ c2) (hr3 : Kd.C k51 w A3 l3.length l3) (hc3 : l3.length ≤ c3)
    (h1 : dioramalaw19_pages.f k l0 = some true) (h2 : dioramalaw19_pages.f k l3 = some true) (h3 : dioramalaw19_small.f k cl l1 l2 = some false) :
    Calls Try.prog 5 #[.agg #[.slice A0 l0.length c0, .bool cl, .slice A1 l1.length c1, .slice A2 l2.length c2, .slice A3 l3.length c3, .int .i64 wd, .int .i64 hi]] w fun e w' => e = .returned (.bool true) ∧ Below w.heap.size w w' := by
  have hu1 := Try.underlying53
  have hu2 := Try.underlying51
  have hu3 := Try.underlying38
  have HR0 := Aside0.mk hr0
  have HC0 := Aside0.mk hc0
  have HR1 := Aside0.mk hr1
  have HC1 := Aside0.mk hc1
  have HR2 := Aside0.mk hr2
  have HC2 := Aside0.mk hc2
  have HR3 := Aside0.mk hr3
  have HC3 := Aside0.mk hc3
  have H1 := Aside0.mk h1
  have H2 := Aside0.mk h2
  have H3 := Aside0.mk h3
  clear hr0 hc0 hr1 hc1 hr2 hc2 hr3 hc3 h1 h2 h3
  go_enter Try.func5, Try.ntmps5
  go_wp2_with (first | ((with_reducible refine gate_dst (N := 1) rfl ?_); refine box_event ?hg (N := 1) ?hd (cs := #[.slice A0 l0.length c0, .bool cl, .slice A1 l1.length c1, .slice A2 l2.length c2, .slice A3 l3.length c3, .int .i64 wd, .int .i64 hi]) (t := 53) ?hr ?_; (case hd => rfl); (case hg => rfl); (case hr => first | (go_simp; done) | (go_simp; rfl)); intro g1 hg wa hbox hb; have BB := Aside0.mk (below_step (Below.refl _ _) hb); have GE1 : Aside0 (w.heap.size ≤ g1) := ⟨by rw [hg]; exact Nat.le_refl _⟩; have G1 := Aside0.mk hbox; clear hb hbox hg))
  have D1 := Aside0.mk (show Below w.heap.size w wa.drew ∧ wa.drew.heap[g1]? = some _ from ⟨below_drew BB.out, G1.out⟩)
  clear D1
  obtain ⟨h0, h1, h2, h3, h4, h5, h6, f0, f1, f2, f3, f4, f5, f6⟩ := bcells7 G1.out
  have hnd : (w.heap.size : Nat) = w.heap.size := rfl
  clear hnd
  go_region_held3 (fun w' => w'.cell? ⟨g1, 0, none⟩ = some (.slice A0 l0.length c0) ∧ w'.cell? ⟨g1, 1, none⟩ = some (.bool cl) ∧ w'.cell? ⟨g1, 2, none⟩ = some (.slice A1 l1.length c1) ∧ w'.cell? ⟨g1, 3, none⟩ = some (.slice A2 l2.length c2) ∧ w'.cell? ⟨g1, 4, none⟩ = some (.slice A3 l3.length c3) ∧ w'.cell? ⟨g1, 5, none⟩ = some (.int .i64 wd) ∧ w'.cell? ⟨g1, 6, none⟩ = some (.int .i64 hi)) (go_keep) (fail)
  clear h0 h1 h2 h3 h4 h5 h6 f0 f1 f2 f3 f4 f5 f6
  rename_i hHeld
  clear hHeld
  generalize hw2 : (wa.alloc (.cells #[.bool cl, .slice A1 l1.length c1, .slice A2 l2.length c2] 51)).drew = w2
  generalize hg2 : wa.heap.size = g2
  have B2 : Aside0 (Below w.heap.size w w2) := ⟨by rw [← hw2]; exact below_drew (below_alloc BB.out _)⟩
  have G2 : Aside0 (w2.heap[g2]? = some (.cells #[.bool cl, .slice A1 l1.length c1, .slice A2 l2.length c2] 51 (0, 0))) := ⟨by rw [← hw2, ← hg2]; exact blk_drew (blk_new wa _)⟩
  have GE2 : Aside0 (w.heap.size ≤ g2) := ⟨by rw [← hg2]; exact BB.out.size⟩
  clear hw2 hg2 BB G1 GE1
  go_wp2_with fail
  refine (dioramalaw19_pages.calls k A0 c0 l0 true w2 (Kd.C_below HR0.out B2.out) HC0.out H1.out).mono ?_
  rintro e w3 ⟨rfl, hb⟩
  have B3 := Aside0.mk (below_step B2.out hb)
  have G3 := Aside0.mk (blk_below G2.out hb)
  clear B2 G2 hb
  go_wp2_with fail
  refine (dioramalaw19_pages.calls k A3 c3 l3 true w3 (Kd.C_below HR3.out B3.out) HC3.out H2.out).mono ?_
  rintro e w4 ⟨rfl, hb⟩
  have B4 := Aside0.mk (below_step B3.out hb)
  have G4 := Aside0.mk (blk_below G3.out hb)
  clear B3 G3 hb
  obtain ⟨h0, h1, h2, f0, f1, f2⟩ := bcells3 G4.out
  go_wp2_with fail
  clear h0 h1 h2 f0 f1 f2
  refine (dioramalaw19_small.calls k cl A1 c1 l1 A2 c2 l2 false w4 (Kd.C_below HR1.out B4.out) HC1.out (Kd.C_below HR2.out B4.out) HC2.out H3.out).mono ?_
  rintro e w5 ⟨rfl, hb⟩
  have B5 := Aside0.mk (below_step B4.out hb)
  clear hb
  go_wp2_with fail
  go_ret
  exact ⟨rfl, B5.out⟩
set_option maxRecDepth 100000 in
set_option maxHeartbeats 2000000 in
theorem forgets_d {w : World} (k : Nat) (A0 : Option Addr) (c0 : Nat) (l0 : List S51) (cl : Bool) (A1 : Option Addr) (c1 : Nat) (l1 : List Int) (A2 : Option Addr) (c2 : Nat) (l2 : List S91) (A3 : Option Addr) (c3 : Nat) (l3 : List S51) (wd hi : Int)
    (hr0 : Kd.C k51 w A0 l0.length l0) (hc0 : l0.length ≤ c0) (hr1 : Kd.C (Kd.int .i64) w A1 l1.length l1) (hc1 : l1.length ≤ c1) (hr2 : Kd.C k91 w A2 l2.length l2) (hc2 : l2.length ≤ c2) (hr3 : Kd.C k51 w A3 l3.length l3) (hc3 : l3.length ≤ c3)
    (h1 : dioramalaw19_pages.f k l0 = some true) (h2 : dioramalaw19_pages.f k l3 = some true) (h3 : dioramalaw19_small.f k cl l1 l2 = some true) (hn : l1.length = 0) (h4 : dioramalaw19_awake.f k = some true) :
    Calls Try.prog 5 #[.agg #[.slice A0 l0.length c0, .bool cl, .slice A1 l1.length c1, .slice A2 l2.length c2, .slice A3 l3.length c3, .int .i64 wd, .int .i64 hi]] w fun e w' => e = .returned (.bool true) ∧ Below w.heap.size w w' := by
  have HN := Aside0.mk hn
  clear hn
  have hu1 := Try.underlying53
  have hu2 := Try.underlying51
  have hu3 := Try.underlying38
  have HR0 := Aside0.mk hr0
  have HC0 := Aside0.mk hc0
  have HR1 := Aside0.mk hr1
  have HC1 := Aside0.mk hc1
  have HR2 := Aside0.mk hr2
  have HC2 := Aside0.mk hc2
  have HR3 := Aside0.mk hr3
  have HC3 := Aside0.mk hc3
  have H1 := Aside0.mk h1
  have H2 := Aside0.mk h2
  have H3 := Aside0.mk h3
  have H4 := Aside0.mk h4
  clear hr0 hc0 hr1 hc1 hr2 hc2 hr3 hc3 h1 h2 h3 h4
  go_enter Try.func5, Try.ntmps5
  go_wp2_with (first | ((with_reducible refine gate_dst (N := 1) rfl ?_); refine box_event ?hg (N := 1) ?hd (cs := #[.slice A0 l0.length c0, .bool cl, .slice A1 l1.length c1, .slice A2 l2.length c2, .slice A3 l3.length c3, .int .i64 wd, .int .i64 hi]) (t := 53) ?hr ?_; (case hd => rfl); (case hg => rfl); (case hr => first | (go_simp; done) | (go_simp; rfl)); intro g1 hg wa hbox hb; have BB := Aside0.mk (below_step (Below.refl _ _) hb); have GE1 : Aside0 (w.heap.size ≤ g1) := ⟨by rw [hg]; exact Nat.le_refl _⟩; have G1 := Aside0.mk hbox; clear hb hbox hg))
  have D1 := Aside0.mk (show Below w.heap.size w wa.drew ∧ wa.drew.heap[g1]? = some _ from ⟨below_drew BB.out, G1.out⟩)
  clear D1
  obtain ⟨h0, h1, h2, h3, h4, h5, h6, f0, f1, f2, f3, f4, f5, f6⟩ := bcells7 G1.out
  have hnd : (w.heap.size : Nat) = w.heap.size := rfl
  clear hnd
  go_region_held3 (fun w' => w'.cell? ⟨g1, 0, none⟩ = some (.slice A0 l0.length c0) ∧ w'.cell? ⟨g1, 1, none⟩ = some (.bool cl) ∧ w'.cell? ⟨g1, 2, none⟩ = some (.slice A1 l1.length c1) ∧ w'.cell? ⟨g1, 3, none⟩ = some (.slice A2 l2.length c2) ∧ w'.cell? ⟨g1, 4, none⟩ = some (.slice A3 l3.length c3) ∧ w'.cell? ⟨g1, 5, none⟩ = some (.int .i64 wd) ∧ w'.cell? ⟨g1, 6, none⟩ = some (.int .i64 hi)) (go_keep) (fail)
  clear h0 h1 h2 h3 h4 h5 h6 f0 f1 f2 f3 f4 f5 f6
  rename_i hHeld
  clear hHeld
  generalize hw2 : (wa.alloc (.cells #[.bool cl, .slice A1 l1.length c1, .slice A2 l2.length c2] 51)).drew = w2
  generalize hg2 : wa.heap.size = g2
  have B2 : Aside0 (Below w.heap.size w w2) := ⟨by rw [← hw2]; exact below_drew (below_alloc BB.out _)⟩
  have G2 : Aside0 (w2.heap[g2]? = some (.cells #[.bool cl, .slice A1 l1.length c1, .slice A2 l2.length c2] 51 (0, 0))) := ⟨by rw [← hw2, ← hg2]; exact blk_drew (blk_new wa _)⟩
  have GE2 : Aside0 (w.heap.size ≤ g2) := ⟨by rw [← hg2]; exact BB.out.size⟩
  clear hw2 hg2 BB G1 GE1
  go_wp2_with fail
  refine (dioramalaw19_pages.calls k A0 c0 l0 true w2 (Kd.C_below HR0.out B2.out) HC0.out H1.out).mono ?_
  rintro e w3 ⟨rfl, hb⟩
  have B3 := Aside0.mk (below_step B2.out hb)
  have G3 := Aside0.mk (blk_below G2.out hb)
  clear B2 G2 hb
  go_wp2_with fail
  refine (dioramalaw19_pages.calls k A3 c3 l3 true w3 (Kd.C_below HR3.out B3.out) HC3.out H2.out).mono ?_
  rintro e w4 ⟨rfl, hb⟩
  have B4 := Aside0.mk (below_step B3.out hb)
  have G4 := Aside0.mk (blk_below G3.out hb)
  clear B3 G3 hb
  obtain ⟨h0, h1, h2, f0, f1, f2⟩ := bcells3 G4.out
  go_wp2_with fail
  clear h0 h1 h2 f0 f1 f2
  refine (dioramalaw19_small.calls k cl A1 c1 l1 A2 c2 l2 true w4 (Kd.C_below HR1.out B4.out) HC1.out (Kd.C_below HR2.out B4.out) HC2.out H3.out).mono ?_
  rintro e w5 ⟨rfl, hb⟩
  have B5 := Aside0.mk (below_step B4.out hb)
  have G5 := Aside0.mk (blk_below G4.out hb)
  clear B4 G4 hb
  obtain ⟨h0, h1, h2, f0, f1, f2⟩ := bcells3 G5.out
  obtain ⟨w6, hw6⟩ : ∃ wz, w5.setCell ⟨g2, 0, none⟩ (.bool true) = wz := ⟨_, rfl⟩
  have B6 : Aside0 (Below w.heap.size w w6) := ⟨by rw [← hw6]; exact below_set B5.out GE2.out⟩
  have G6 : Aside0 (w6.heap[g2]? = some (.cells #[.bool true, .slice A1 l1.length c1, .slice A2 l2.length c2] 51 (0, 0))) := ⟨by rw [← hw6]; exact blk_put G5.out 0 _ rfl⟩
  obtain ⟨h0', h1', h2', f0', f1', f2'⟩ := bcells3 G6.out
  have hp1 : ((l1.length : Int) == 0) = true := by have := HN.out; simp; exact List.eq_nil_of_length_eq_zero this
  have hp2 : (l1.length == 0) = true := by have := HN.out; simp; exact List.eq_nil_of_length_eq_zero this
  clear B5 G5
  go_wp2_with fail
  clear hw6 h0 h1 h2 f0 f1 f2 h0' h1' h2' f0' f1' f2' hp1 hp2
  refine (dioramalaw19_awake.calls k true _ H4.out).mono ?_
  rintro e w7 ⟨rfl, hb⟩
  have B7 := Aside0.mk (below_step B6.out hb)
  clear hb
  go_wp2_with fail
  go_ret
  exact ⟨rfl, B7.out⟩
/-- What the statement asks, said of the program's answers. -/
def dioramalaw19_BitmapForgets.f (k : Nat) (l0_0 : List S51) (a0_1_0 : Bool) (l0_1_1 : List Int) (l0_1_2 : List S91) (l0_2 : List S51) (a0_3 a0_4 : Int) : Option Bool :=
  (dioramalaw19_pages.f k l0_0).bind fun p => if p = false then some true else (dioramalaw19_pages.f k l0_2).bind fun q => if q = false then some true else
  (dioramalaw19_small.f k a0_1_0 l0_1_1 l0_1_2).bind fun r => if r = false then some true else (dioramalaw19_awake.f k).bind fun v =>
  if l0_1_1.length = 0 then (if v = true then some true else none) else
  (bitmap_Compose.f k ([⟨true, l0_1_1, l0_1_2⟩] ++ l0_2) a0_3 a0_4).bind fun x => (bitmap_Compose.f k (([] ++ l0_0) ++ ([⟨true, l0_1_1, l0_1_2⟩] ++ l0_2)) a0_3 a0_4).bind fun y =>
  (dioramalaw19_same.f k y.1 y.2.1 y.2.2.1 y.2.2.2.1 y.1 y.2.1 y.2.2.1 y.2.2.2.1).bind fun u =>
  if (l0_0.length ≤ 12 ∧ l0_2.length ≤ 12) ∧ (y.2.2.2.2 = 0 → y = x) ∧ u = true ∧ v = true then some true else none
theorem dioramalaw19_BitmapForgets.calls (k : Nat) (A0_0 : Option Addr) (c0_0 : Nat) (l0_0 : List S51) (a0_1_0 : Bool) (A0_1_1 : Option Addr) (c0_1_1 : Nat) (l0_1_1 : List Int) (A0_1_2 : Option Addr) (c0_1_2 : Nat) (l0_1_2 : List S91) (A0_2 : Option Addr) (c0_2 : Nat) (l0_2 : List S51) (a0_3 a0_4 : Int) (r : Bool) (w : World) (hr0_0 : Kd.C k51 w A0_0 l0_0.length l0_0) (hc0_0 : l0_0.length ≤ c0_0) (hr0_1_1 : Kd.C (Kd.int .i64) w A0_1_1 l0_1_1.length l0_1_1) (hc0_1_1 : l0_1_1.length ≤ c0_1_1) (hr0_1_2 : Kd.C k91 w A0_1_2 l0_1_2.length l0_1_2) (hc0_1_2 : l0_1_2.length ≤ c0_1_2) (hr0_2 : Kd.C k51 w A0_2 l0_2.length l0_2) (hc0_2 : l0_2.length ≤ c0_2) (h : dioramalaw19_BitmapForgets.f k l0_0 a0_1_0 l0_1_1 l0_1_2 l0_2 a0_3 a0_4 = some r) :
    Calls Try.prog 5 #[.agg #[.slice A0_0 l0_0.length c0_0, .bool a0_1_0, .slice A0_1_1 l0_1_1.length c0_1_1, .slice A0_1_2 l0_1_2.length c0_1_2, .slice A0_2 l0_2.length c0_2, .int .i64 a0_3, .int .i64 a0_4]] w fun e w' => e = .returned (.bool r) ∧ Below w.heap.size w w' := by
  unfold dioramalaw19_BitmapForgets.f at h
  obtain ⟨p, h1, q1⟩ := Option.bind_eq_some_iff.mp h
  cases p with
  | false =>
    rw [if_pos rfl] at q1
    obtain rfl := Option.some.inj q1
    exact forgets_a k A0_0 c0_0 l0_0 a0_1_0 A0_1_1 c0_1_1 l0_1_1 A0_1_2 c0_1_2 l0_1_2 A0_2 c0_2 l0_2 a0_3 a0_4 hr0_0 hc0_0 hr0_1_1 hc0_1_1 hr0_1_2 hc0_1_2 hr0_2 hc0_2 h1
  | true =>
  rw [if_neg (by simp)] at q1
  obtain ⟨q, h2, q2⟩ := Option.bind_eq_some_iff.mp q1
  cases q with
  | false =>
    rw [if_pos rfl] at q2
    obtain rfl := Option.some.inj q2
    exact forgets_b k A0_0 c0_0 l0_0 a0_1_0 A0_1_1 c0_1_1 l0_1_1 A0_1_2 c0_1_2 l0_1_2 A0_2 c0_2 l0_2 a0_3 a0_4 hr0_0 hc0_0 hr0_1_1 hc0_1_1 hr0_1_2 hc0_1_2 hr0_2 hc0_2 h1 h2
  | true =>
  rw [if_neg (by simp)] at q2
  obtain ⟨s, h3, q3⟩ := Option.bind_eq_some_iff.mp q2
  cases s with
  | false =>
    rw [if_pos rfl] at q3
    obtain rfl := Option.some.inj q3
    exact forgets_c k A0_0 c0_0 l0_0 a0_1_0 A0_1_1 c0_1_1 l0_1_1 A0_1_2 c0_1_2 l0_1_2 A0_2 c0_2 l0_2 a0_3 a0_4 hr0_0 hc0_0 hr0_1_1 hc0_1_1 hr0_1_2 hc0_1_2 hr0_2 hc0_2 h1 h2 h3
  | true =>
  rw [if_neg (by simp)] at q3
  obtain ⟨v, h7, q4⟩ := Option.bind_eq_some_iff.mp q3
  by_cases hn : l0_1_1.length = 0
  · rw [if_pos hn] at q4
    by_cases hv : v = true
    · rw [if_pos hv] at q4
      obtain rfl := Option.some.inj q4
      subst hv
      exact forgets_d k A0_0 c0_0 l0_0 a0_1_0 A0_1_1 c0_1_1 l0_1_1 A0_1_2 c0_1_2 l0_1_2 A0_2 c0_2 l0_2 a0_3 a0_4 hr0_0 hc0_0 hr0_1_1 hc0_1_1 hr0_1_2 hc0_1_2 hr0_2 hc0_2 h1 h2 h3 hn h7
    · rw [if_neg hv] at q4; cases q4
  · rw [if_neg hn] at q4
    obtain ⟨⟨x1, x2, x3, x4, x5⟩, h4, q5⟩ := Option.bind_eq_some_iff.mp q4
    obtain ⟨⟨y1, y2, y3, y4, y5⟩, h5, q6⟩ := Option.bind_eq_some_iff.mp q5
    obtain ⟨u, h8, q7⟩ := Option.bind_eq_some_iff.mp q6
    by_cases hc : (l0_0.length ≤ 12 ∧ l0_2.length ≤ 12) ∧ (y5 = 0 → (y1, y2, y3, y4, y5) = (x1, x2, x3, x4, x5)) ∧ u = true ∧ v = true
    · rw [if_pos hc] at q7
      obtain rfl := Option.some.inj q7
      obtain ⟨hl, hxy, rfl, rfl⟩ := hc
      exact forgets_walk k A0_0 c0_0 l0_0 a0_1_0 A0_1_1 c0_1_1 l0_1_1 A0_1_2 c0_1_2 l0_1_2 A0_2 c0_2 l0_2 a0_3 a0_4 hr0_0 hc0_0 hr0_1_1 hc0_1_1 hr0_1_2 hc0_1_2 hr0_2 hc0_2 h1 h2 h3 hn hl.1 hl.2 x1 x2 x3 x4 x5 h4 y1 y2 y3 y4 y5 h5 (fun hy => ⟨hxy hy, h8⟩) h7
    · rw [if_neg hc] at q7; cases q7
end Go.Proofs.Ytaebgjdaoloceaa.QBmpF
