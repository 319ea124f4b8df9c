/- A lemma file: a writer of bits, as a list of bits. No condition. -/
import Derived.Test.YtlhdfdedhdcmiaaPB
import Derived.Test.YtlhdfdedhdcmiaaVMake
import Derived.Deep.QuietTactic
import Derived.BigQuiet
import Derived.StillTailTactics
import Derived.Test.YtlhdfdedhdcmiaaQBitsx0
namespace Go.Proofs.Ytlhdfdedhdcmiaa.QBits
open Go.RowKit Go.Proofs.YtlhdfdedhdcmiaaW.PrintWords Go.Proofs.YtlhdfdedhdcmiaaW.PrintLast Go.Proofs.YtlhdfdedhdcmiaaW.PrintMore Go.Proofs.YtlhdfdedhdcmiaaV
set_option linter.unusedVariables false
set_option linter.unusedSimpArgs false
/-- What a call on things with the blocks F has turned: nothing but these; F' are theirs behind it. -/
structure Moved (w w' : World) (F F' : Nat → Prop) : Prop where
  os : w'.os = w.os
  tape : w'.tape = w.tape
  output : w'.output = w.output
  size : w.heap.size ≤ w'.heap.size
  block : ∀ k, k < w.heap.size → ¬ F k → w'.heap[k]? = w.heap[k]?
  sub : ∀ k, F' k → F k ∨ w.heap.size ≤ k
theorem Moved.refl (w : World) (F : Nat → Prop) : Moved w w F F := ⟨rfl, rfl, rfl, Nat.le_refl _, fun _ _ _ => rfl, fun _ h => .inl h⟩
theorem Moved.trans {a b c : World} {F G H : Nat → Prop} (h : Moved a b F G) (k : Moved b c G H) : Moved a c F H :=
  ⟨k.os.trans h.os, k.tape.trans h.tape, k.output.trans h.output, Nat.le_trans h.size k.size,
   fun i hi hn => (k.block i (Nat.lt_of_lt_of_le hi h.size) (fun hg => (h.sub i hg).elim hn (fun hs => absurd hi (by omega)))).trans (h.block i hi hn),
   fun i hi => (k.sub i hi).elim (fun hg => h.sub i hg) (fun hs => .inr (Nat.le_trans h.size hs))⟩
theorem Moved.below {w w' : World} {F F' : Nat → Prop} {base : Nat} (h : Moved w w' F F') (hF : ∀ k, F k → base ≤ k) (hb : base ≤ w.heap.size) : Below base w w' :=
  ⟨h.os, h.tape, h.output, h.size, fun k hk => h.block k (by omega) (fun hf => absurd (hF k hf) (by omega))⟩
theorem Moved.of_below {w w' : World} {F : Nat → Prop} (h : Below w.heap.size w w') : Moved w w' F F := ⟨h.os, h.tape, h.output, h.size, fun k hk _ => h.block k hk, fun _ h => .inl h⟩
theorem Moved.drewN {a b : World} {F G : Nat → Prop} (h : Moved a b F G) (m : Nat) : Moved a (b.drewN m) F G := ⟨h.os, h.tape, h.output, h.size, h.block, h.sub⟩
/-- A writer's blocks: itself, its count, its bytes. -/
structure RawW (W : World) (base g gc : Nat) (v : Value) (bs : List Int) (n : Int) : Prop where
  hg : W.heap[g]? = some (.cells #[.pointer (some ⟨gc, 0, none⟩), v] 87 (0, 0))
  hc : W.heap[gc]? = some (.cells #[.int .i64 n] 85 (0, 0))
  row : W.ownsRow base 5 1 v bs.length (nums .u8 bs)
  bg : base ≤ g
  bc : base ≤ gc
def footW (g gc : Nat) (v : Value) : Nat → Prop := fun k => k = g ∨ k = gc ∨ v.ownBlock = some k
def IsW (W : World) (base : Nat) (F : Nat → Prop) (g : Nat) (B : List Bool) : Prop := ∃ gc v, RawW W base g gc v (packB B) (B.length : Int) ∧ F = footW g gc v
theorem RawW.ge {W : World} {base g gc : Nat} {v : Value} {bs : List Int} {n : Int} (h : RawW W base g gc v bs n) : ∀ k, footW g gc v k → base ≤ k ∧ k < W.heap.size := by
  rintro k (rfl | rfl | hk)
  · exact ⟨h.bg, blk_lt h.hg⟩
  · exact ⟨h.bc, blk_lt h.hc⟩
  · exact ⟨own_base h.row k hk, own_lt h.row k hk⟩
theorem IsW.ge {W : World} {base g : Nat} {F : Nat → Prop} {B : List Bool} (h : IsW W base F g B) : ∀ k, F k → base ≤ k ∧ k < W.heap.size := by
  obtain ⟨gc, v, h, rfl⟩ := h
  exact h.ge
theorem RawW.same {W W' : World} {base g gc : Nat} {v : Value} {bs : List Int} {n : Int} (h : RawW W base g gc v bs n) (hs : W.heap.size ≤ W'.heap.size) (hb : ∀ k, k < W.heap.size → footW g gc v k → W'.heap[k]? = W.heap[k]?) : RawW W' base g gc v bs n := by
  refine ⟨(hb g (blk_lt h.hg) (.inl rfl)).trans h.hg, (hb gc (blk_lt h.hc) (.inr (.inl rfl))).trans h.hc, ?_, h.bg, h.bc⟩
  obtain ⟨h1, h2⟩ := h.row
  refine ⟨h1, ?_⟩
  rcases h2 with h2 | ⟨r, cap, cur, rfl, hr, hh, rest⟩
  · exact .inl h2
  · exact .inr ⟨r, cap, cur, rfl, hr, (hb r (blk_lt hh) (.inr (.inr rfl))).trans hh, rest⟩
theorem IsW.same {W W' : World} {base g : Nat} {F : Nat → Prop} {B : List Bool} (h : IsW W base F g B) (hs : W.heap.size ≤ W'.heap.size) (hb : ∀ k, k < W.heap.size → F k → W'.heap[k]? = W.heap[k]?) : IsW W' base F g B := by
  obtain ⟨gc, v, h, rfl⟩ := h
  exact ⟨gc, v, h.same hs hb, rfl⟩
theorem IsW.below {W W' : World} {base g : Nat} {F : Nat → Prop} {B : List Bool} (h : IsW W base F g B) (hb : Below W.heap.size W W') : IsW W' base F g B := h.same hb.size (fun k hk _ => hb.block k hk)
theorem IsW.drewN {W : World} {base g : Nat} {F : Nat → Prop} {B : List Bool} (h : IsW W base F g B) (m : Nat) : IsW (W.drewN m) base F g B := h.same (Nat.le_refl _) (fun _ _ _ => rfl)
theorem RawW.ne {W : World} {base g gc : Nat} {v : Value} {bs : List Int} {n : Int} (h : RawW W base g gc v bs n) : g ≠ gc ∧ some g ≠ v.ownBlock ∧ some gc ≠ v.ownBlock :=
  ⟨blk_ne h.hg h.hc (by decide), own_ne h.row h.hg (by decide), own_ne h.row h.hc (by decide)⟩
theorem RawW.put {W : World} {base g gc gr q c : Nat} {bs : List Int} {n : Int} (h : RawW W base g gc (.slice (some ⟨gr, 0, none⟩) (q + 1) c) bs n) (hl : bs.length = q + 1) (y m : Int) :
    RawW (((W.setCell ⟨gr, q, none⟩ (.int .u8 y)).setCell ⟨gc, 0, none⟩ (.int .i64 m)).drew) base g gc (.slice (some ⟨gr, 0, none⟩) (q + 1) c) (bs.set q y) m ∧
    Moved W (((W.setCell ⟨gr, q, none⟩ (.int .u8 y)).setCell ⟨gc, 0, none⟩ (.int .i64 m)).drew) (footW g gc (.slice (some ⟨gr, 0, none⟩) (q + 1) c)) (footW g gc (.slice (some ⟨gr, 0, none⟩) (q + 1) c)) := by
  obtain ⟨n1, n2, n3⟩ := h.ne
  have e1 : g ≠ gr := fun e => n2 (by rw [e]; rfl)
  have e2 : gc ≠ gr := fun e => n3 (by rw [e]; rfl)
  have hrow := h.row
  rw [hl] at hrow
  obtain ⟨r1, r2⟩ := own_store hrow (q : Int) y
  rw [Int.toNat_natCast] at r1 r2
  have hg2 := blk_far h.hg (p := ⟨gr, q, none⟩) e1 (.int .u8 y)
  have hc2 := blk_far h.hc (p := ⟨gr, q, none⟩) e2 (.int .u8 y)
  refine ⟨⟨?_, ?_, ?_, h.bg, h.bc⟩, ⟨rfl, rfl, rfl, by simp [World.setCell, World.drew], fun k hk hn => ?_, fun k hk => .inl hk⟩⟩
  · exact blk_far hg2 (p := ⟨gc, 0, none⟩) n1 _
  · have h9 := blk_set hc2 0 (.int .i64 m)
    simp at h9
    exact h9
  · rw [List.length_set, hl]
    exact own_setCell r1 (p := ⟨gc, 0, none⟩) (own_ne r1 hc2 (by decide)) _
  · have k1 : k ≠ gc := fun e => hn (.inr (.inl e))
    have k2 : k ≠ gr := fun e => hn (.inr (.inr (by rw [e]; rfl)))
    exact (Below.heap_setCell _ ⟨gc, 0, none⟩ _ k k1).trans (Below.heap_setCell _ ⟨gr, q, none⟩ _ k k2)
theorem bit_raw (g gc : Nat) (v : Value) (bs : List Int) (n q r s : Nat) (x : Int) (base : Nat) (w : World) (h : RawW w base g gc v bs (n : Int)) (hb : base ≤ w.heap.size) (hq : n = 8 * q + r) (hs : r + s = 7) (hn : n < 67108864) (hl : bs.length = if r = 0 then q else q + 1) (y : Int)
    (hy : Go.bits .or .u8 (rd (if r = 0 then bs ++ [0] else bs) (q : Int)) (IntKind.u8.wrap (IntKind.i64.wrap (x * 2 ^ min s 64))) = y) :
    Calls Try.prog 92 #[.pointer (some ⟨g, 0, none⟩), .int .i64 x] w fun e w' => e = .returned (.tuple #[]) ∧ ∃ v', RawW w' base g gc v' ((if r = 0 then bs ++ [0] else bs).set q y) ((n + 1 : Nat) : Int) ∧ Moved w w' (footW g gc v) (footW g gc v') := by
  obtain ⟨A, c, rfl⟩ := own_slice h.row
  have info5 : (Try.prog.info? 5).map (fun i => (i.zero, i.size, i.bytes)) = some (some (.int .u8 0), 1, 1) := by kernel_rfl
  have HR := Aside0.mk h
  have HN := Aside0.mk h.ne
  have cg0 : w.cell? ⟨g, 0, none⟩ = some (.pointer (some ⟨gc, 0, none⟩)) := (blk_cell h.hg 0).trans rfl
  have cg1 : w.cell? ⟨g, 1, none⟩ = some (.slice A bs.length c) := (blk_cell h.hg 1).trans rfl
  have fg1 := blk_frozen h.hg 1
  have cc0 : w.cell? ⟨gc, 0, none⟩ = some (.int .i64 n) := (blk_cell h.hc 0).trans rfl
  have fc0 := blk_frozen h.hc 0
  have HL := Aside0.mk hl
  have HQ := Aside0.mk hq
  have HS := Aside0.mk hs
  have HX := Aside0.mk hn
  have rm : (n : Int) % 8 = (r : Int) := by omega
  have rt : (n : Int).tmod 8 = (r : Int) := by rw [Int.tmod_eq_emod_of_nonneg (by omega)]; exact rm
  have rs : IntKind.i64.wrap (7 - (r : Int)) = (s : Int) := by rw [IntKind.wrap_i64]; omega
  have rn : IntKind.i64.wrap ((n : Int) + 1) = ((n + 1 : Nat) : Int) := by rw [IntKind.wrap_i64]; omega
  have rq : IntKind.i64.wrap (q : Int) = (q : Int) := by rw [IntKind.wrap_i64]; omega
  have rs0 : decide (0 ≤ (s : Int)) = true := by simp
  have lt1 : ((q : Int) < (q : Int) + 1) = True := eq_true (by omega)
  clear h hl hq hs hn
  by_cases hm : r = 0
  · simp only [if_pos hm] at hy ⊢
    have hm1 : ((r : Int) == 0) = true := beq_iff_eq.mpr (by omega)
    have hm2 := Aside0.mk hm
    have hy2 := Aside0.mk hy
    clear hm hy
    go_enter Try.func92, Try.ntmps92
    go_wp2_with (at_builtin; refine print_append_num (w0 := w) base rfl (.tmp 17) (.tmp 18) 22 5 .u8 1 rfl Try.underlying22 info5 (by decide) _ bs 0 rfl rfl HR.out.row (Below.refl _ _) hb (by have h1 := HL.out; have h2 := HQ.out; have h3 := HX.out; rw [if_pos hm2.out] at h1; omega) ?_; intro v1 w1 hown hB hG hat; obtain ⟨A1, c1, rfl⟩ := own_slice hown; have G1 := blk_grown HR.out.hg hG HN.out.2.1; have C1 := blk_grown HR.out.hc hG HN.out.2.2; have cg0' : w1.cell? ⟨g, 0, none⟩ = some (.pointer (some ⟨gc, 0, none⟩)) := (blk_cell G1 0).trans rfl; have cg1' : w1.cell? ⟨g, 1, none⟩ = some (.slice A bs.length c) := (blk_cell G1 1).trans rfl; have fg1' := blk_frozen G1 1; have cc0' : w1.cell? ⟨gc, 0, none⟩ = some (.int .i64 n) := (blk_cell C1 0).trans rfl; have S1 := Aside0.mk hown; have S2 := Aside0.mk hG; have S3 := Aside0.mk hat; have S4 := Aside0.mk G1; have S5 := Aside0.mk C1; clear hown hB hG hat G1 C1)
    have e1 : (bs ++ [0]).length = bs.length + 1 := by simp
    rw [e1] at S1 S3
    have R2 : RawW (w1.setCell ⟨g, 1, none⟩ (.slice A1 (bs.length + 1) c1)) base g gc (.slice A1 (bs.length + 1) c1) (bs ++ [0]) n := by
      have hne : some g ≠ (Value.slice A1 (bs.length + 1) c1).ownBlock := own_ne S1.out S4.out (by decide)
      exact ⟨by simpa using blk_set S4.out 1 (.slice A1 (bs.length + 1) c1), blk_far S5.out (fun e => HN.out.1 e.symm) _, by rw [e1]; exact own_setCell S1.out hne _, HR.out.bg, HR.out.bc⟩
    have M2 : Moved w (w1.setCell ⟨g, 1, none⟩ (.slice A1 (bs.length + 1) c1)) (footW g gc (.slice A bs.length c)) (footW g gc (.slice A1 (bs.length + 1) c1)) := by
      have hG := S2.out
      refine ⟨hG.os, hG.tape, hG.output, by simpa [World.setCell] using hG.size, fun k hk hn => ?_, ?_⟩
      · have h1 : k ≠ g := fun e => hn (.inl e)
        have h2 : some k ≠ (Value.slice A bs.length c).ownBlock := fun e => hn (.inr (.inr e.symm))
        exact (Below.heap_setCell w1 _ _ k h1).trans (hG.block k hk h2)
      · rintro k (rfl | rfl | hk)
        · exact .inl (.inl rfl)
        · exact .inl (.inr (.inl rfl))
        · rcases S3.out with h3 | ⟨b, h3, h4⟩
          · exact .inl (.inr (.inr (h3.symm.trans hk)))
          · exact .inr (by rw [show k = b from Option.some.inj (hk.symm.trans h3)]; exact h4)
    have HM := Aside0.mk M2
    have HR2 := Aside0.mk R2
    clear M2 R2 S1 S2 S3 S4 S5 cg0 cg1 fg1 cc0 fc0 cg0' cg1' fg1' cc0'
    generalize w1.setCell ⟨g, 1, none⟩ (.slice A1 (bs.length + 1) c1) = w2 at HM HR2 ⊢
    have e2 : bs.length + 1 = q + 1 := by have h1 := HL.out; rw [if_pos hm2.out] at h1; omega
    have HR3 : RawW w2 base g gc (.slice A1 (q + 1) c1) (bs ++ [0]) n := by rw [← e2]; exact HR2.out
    have HM3 : Moved w w2 (footW g gc (.slice A bs.length c)) (footW g gc (.slice A1 (q + 1) c1)) := by rw [← e2]; exact HM.out
    have HB2 : (bs ++ [0]).length = q + 1 := by rw [e1, e2]
    rw [e2]
    clear e1 e2 HR2 HM
    have HR2 := Aside0.mk HR3
    have HM := Aside0.mk HM3
    have HB := Aside0.mk HB2
    clear HR3 HM3 HB2
    generalize hb2 : bs ++ [0] = b2 at HR2 HB hy2
    have HBB := Aside0.mk hb2
    clear hb2
    have row2 := HR2.out.row
    rw [HB.out] at row2
    obtain ⟨gr, cap, ev, hgb, hgl⟩ := row2.form (by omega)
    simp only [Value.slice.injEq] at ev
    obtain ⟨rfl, -, rfl⟩ := ev
    have cg0 : w2.cell? ⟨g, 0, none⟩ = some (.pointer (some ⟨gc, 0, none⟩)) := (blk_cell HR2.out.hg 0).trans rfl
    have cg1 : w2.cell? ⟨g, 1, none⟩ = some (.slice (some ⟨gr, 0, none⟩) (q + 1) c1) := (blk_cell HR2.out.hg 1).trans rfl
    have cc0 : w2.cell? ⟨gc, 0, none⟩ = some (.int .i64 n) := (blk_cell HR2.out.hc 0).trans rfl
    have fc0 := blk_frozen HR2.out.hc 0
    obtain ⟨cr, fr⟩ := own_at row2 (q : Int) (by omega) (by omega)
    rw [Int.toNat_natCast] at cr fr
    clear hgb hgl row2
    go_still_tail 26, (by kernel_rfl)
    change wpList _ _ _ _ _ w2.drew
    simp only [hy2.out]
    have G2 : (w2.setCell ⟨gr, q, none⟩ (.int .u8 y)).heap[g]? = some (.cells #[.pointer (some ⟨gc, 0, none⟩), .slice (some ⟨gr, 0, none⟩) (q + 1) c1] 87 (0, 0)) := blk_far HR2.out.hg (fun e => HR2.out.ne.2.1 (by rw [e]; rfl)) _
    have C2 : (w2.setCell ⟨gr, q, none⟩ (.int .u8 y)).heap[gc]? = some (.cells #[.int .i64 n] 85 (0, 0)) := blk_far HR2.out.hc (fun e => HR2.out.ne.2.2 (by rw [e]; rfl)) _
    have d0 : (w2.setCell ⟨gr, q, none⟩ (.int .u8 y)).cell? ⟨g, 0, none⟩ = some (.pointer (some ⟨gc, 0, none⟩)) := (blk_cell G2 0).trans rfl
    have d1 : (w2.setCell ⟨gr, q, none⟩ (.int .u8 y)).cell? ⟨gc, 0, none⟩ = some (.int .i64 n) := (blk_cell C2 0).trans rfl
    have d2 := blk_frozen C2 0
    have HG2 := Aside0.mk G2
    have HC2 := Aside0.mk C2
    clear G2 C2
    go_wp2_with fail
    go_end0
    obtain ⟨P1, P2⟩ := HR2.out.put HB.out y ((n : Int) + 1)
    exact ⟨rfl, _, by rw [HBB.out]; exact P1, HM.out.trans P2⟩
  · simp only [if_neg hm] at hy ⊢
    have hm1 : ((r : Int) == 0) = false := beq_eq_false_iff_ne.mpr (by omega)
    have hy2 := Aside0.mk hy
    have e2 : bs.length = q + 1 := by have h1 := HL.out; rw [if_neg hm] at h1; omega
    have HR2 : Aside0 (RawW w base g gc (.slice A (q + 1) c) bs n) := ⟨by rw [← e2]; exact HR.out⟩
    have HB := Aside0.mk e2
    rw [e2]
    clear hm hy HR HN HL e2 cg0 cg1 fg1 cc0 fc0
    have row2 := HR2.out.row
    rw [HB.out] at row2
    obtain ⟨gr, cap, ev, hgb, hgl⟩ := row2.form (by omega)
    simp only [Value.slice.injEq] at ev
    obtain ⟨rfl, -, rfl⟩ := ev
    have cg0 : w.cell? ⟨g, 0, none⟩ = some (.pointer (some ⟨gc, 0, none⟩)) := (blk_cell HR2.out.hg 0).trans rfl
    have cg1 : w.cell? ⟨g, 1, none⟩ = some (.slice (some ⟨gr, 0, none⟩) (q + 1) c) := (blk_cell HR2.out.hg 1).trans rfl
    have cc0 : w.cell? ⟨gc, 0, none⟩ = some (.int .i64 n) := (blk_cell HR2.out.hc 0).trans rfl
    have fc0 := blk_frozen HR2.out.hc 0
    obtain ⟨cr, fr⟩ := own_at row2 (q : Int) (by omega) (by omega)
    rw [Int.toNat_natCast] at cr fr
    clear hgb hgl row2
    go_enter Try.func92, Try.ntmps92
    go_wp2_with fail
    go_still_tail 26, (by kernel_rfl)
    change wpList _ _ _ _ _ w.drew
    simp only [hy2.out]
    have G2 : (w.setCell ⟨gr, q, none⟩ (.int .u8 y)).heap[g]? = some (.cells #[.pointer (some ⟨gc, 0, none⟩), .slice (some ⟨gr, 0, none⟩) (q + 1) c] 87 (0, 0)) := blk_far HR2.out.hg (fun e => HR2.out.ne.2.1 (by rw [e]; rfl)) _
    have C2 : (w.setCell ⟨gr, q, none⟩ (.int .u8 y)).heap[gc]? = some (.cells #[.int .i64 n] 85 (0, 0)) := blk_far HR2.out.hc (fun e => HR2.out.ne.2.2 (by rw [e]; rfl)) _
    have d0 : (w.setCell ⟨gr, q, none⟩ (.int .u8 y)).cell? ⟨g, 0, none⟩ = some (.pointer (some ⟨gc, 0, none⟩)) := (blk_cell G2 0).trans rfl
    have d1 : (w.setCell ⟨gr, q, none⟩ (.int .u8 y)).cell? ⟨gc, 0, none⟩ = some (.int .i64 n) := (blk_cell C2 0).trans rfl
    have d2 := blk_frozen C2 0
    have HG2 := Aside0.mk G2
    have HC2 := Aside0.mk C2
    clear G2 C2
    go_wp2_with fail
    go_end0
    obtain ⟨P1, P2⟩ := HR2.out.put HB.out y ((n : Int) + 1)
    exact ⟨rfl, _, P1, P2⟩
end Go.Proofs.Ytlhdfdedhdcmiaa.QBits
