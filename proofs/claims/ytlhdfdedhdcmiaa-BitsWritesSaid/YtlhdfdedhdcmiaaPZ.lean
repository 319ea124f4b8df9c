/- A lemma file: Align and Bytes of the reference's writer of bits, as functions of lists of bits. No condition. -/
import Derived.Test.YtlhdfdedhdcmiaaPY
namespace Go.Proofs.Ytlhdfdedhdcmiaa.QBits
open Go.RowKit Go.Proofs.YtlhdfdedhdcmiaaW.PrintWords Go.Proofs.YtlhdfdedhdcmiaaW.PrintLast Go.Proofs.YtlhdfdedhdcmiaaW.PrintMore Go.Proofs.YtlhdfdedhdcmiaaV
set_option linter.unusedVariables false
set_option linter.unusedSimpArgs false
theorem xalign_calls {w : World} {base g : Nat} {F : Nat → Prop} {B : List Bool} (h : IsX w base F g B) (hb : base ≤ w.heap.size) (hl : B.length ≤ 8388608) :
    Calls Try.prog 78 #[.pointer (some ⟨g, 0, none⟩)] w fun e w' => e = .returned (.tuple #[]) ∧ ∃ F', IsX w' base F' g (alignB B) ∧ Moved w w' F F' := by
  have H := Aside0.mk h
  have HB := Aside0.mk hb
  have HL := Aside0.mk hl
  obtain ⟨n, hn⟩ : ∃ n, n = (8 - B.length % 8) % 8 := ⟨_, rfl⟩
  have HN := Aside0.mk hn
  clear h hb hl hn
  go_enter Try.func78, Try.ntmps78
  go_wp2_with fail
  go_loopg [2] (n + 1) (fun kq v2 w' => ∃ (m : Nat) (Fm : Nat → Prop) (Bm : List Bool), Aside0 (kq = n - m + 1) ∧ Aside0 (m ≤ n ∧ Bm = B ++ List.replicate m false) ∧ Aside0 (IsX w' base Fm g Bm) ∧ Aside0 (Moved w w' F Fm))
  case atStart =>
    exact ⟨0, F, B, ⟨rfl⟩, ⟨⟨Nat.zero_le _, by simp⟩⟩, H, ⟨Moved.refl _ _⟩⟩
  case round =>
    obtain ⟨m, Fm, Bm, HQ, HE, HI, HMv⟩ := hrel
    have HLE : Aside0 (Bm.length < 67108864) := ⟨by rw [HE.out.2]; have := HE.out.1; have := HN.out; have := HL.out; simp; omega⟩
    have HLM : Aside0 (Bm.length = B.length + m) := ⟨by rw [HE.out.2]; simp⟩
    obtain ⟨vb, hR, hF⟩ := HI.out
    have HR := Aside0.mk hR
    have HF := Aside0.mk hF
    have cg0 : wr.cell? ⟨g, 0, none⟩ = some vb := (blk_cell hR.hg 0).trans rfl
    have fg0 := blk_frozen hR.hg 0
    obtain ⟨A, c, rfl⟩ := own_slice hR.row
    clear hR hF
    by_cases hlt : m < n
    · have e1 : ((Bm.length : Int) % 8 == 0) = false := beq_eq_false_iff_ne.mpr (by have := HLM.out; have := HN.out; omega)
      have e2 : ((Bm.length : Int) % 8 != 0) = true := bne_iff_ne.mpr (by have := HLM.out; have := HN.out; omega)
      have HLT := Aside0.mk hlt
      clear hlt
      go_wp2_with (at_builtin; refine print_append (w0 := w) (W := wr) base rfl (.tmp 13) (.tmp 14) 65 4 (.bool false) 1 rfl Try.underlying65 infoB rfl (by decide) _ (bools Bm) _ rfl rfl rfl (by rw [bools_length]; exact HR.out.row) (HMv.out.below (fun k hk => (H.out.ge k hk).1) HB.out) (Nat.le_trans HB.out HMv.out.size) (by have := HLE.out; rw [bools_length]; omega) ?_)
      intro v1 w1 hown hB2 hG hat
      rw [bools_length, bools_snoc] at hown
      have hown2 : w1.ownsRow base 4 1 v1 (Bm ++ [false]).length (bools (Bm ++ [false])) := by rw [List.length_append]; exact hown
      obtain ⟨P1, P2⟩ := HR.out.push hown2 hG hat
      have G1 := blk_grown HR.out.hg hG (own_ne HR.out.row HR.out.hg (by decide))
      have cg1 : w1.cell? ⟨g, 0, none⟩ = some _ := (blk_cell G1 0).trans rfl
      have fg1 := blk_frozen G1 0
      obtain ⟨A1, c1, rfl⟩ := own_slice hown
      have HI2 := Aside0.mk (show IsX _ base _ g (Bm ++ [false]) from ⟨_, P1, rfl⟩)
      have HM2 := Aside0.mk (HMv.out.trans (by rw [HF.out]; exact P2))
      clear hown hown2 hB2 hG hat P1 P2 G1 cg0 fg0
      go_wp2_with fail
      go_roundg (n - (m + 1) + 1)
      case measure => have := HQ.out; have := HLT.out; omega
      case rel =>
        refine ⟨m + 1, _, _, ⟨rfl⟩, ⟨⟨HLT.out, ?_⟩⟩, HI2, HM2⟩
        rw [HE.out.2, List.append_assoc, List.replicate_succ']
    · have hz : m = n := by have := HE.out.1; omega
      have e1 : ((Bm.length : Int) % 8 == 0) = true := beq_iff_eq.mpr (by have := HLM.out; have := HN.out; omega)
      have e2 : ((Bm.length : Int) % 8 != 0) = false := bne_eq_false_iff_eq.mpr (by have := HLM.out; have := HN.out; omega)
      have h9 : Bm = alignB B := by rw [HE.out.2, hz, HN.out]; rfl
      have HI2 : Aside0 (IsX wr base Fm g (alignB B)) := ⟨by rw [← h9]; exact HI.out⟩
      clear hlt hz h9
      go_wp2_with fail
      go_end0
      exact ⟨rfl, _, HI2.out, HMv.out⟩
def padB (m : Nat) (B : List Bool) : List Int := (List.range m).map (fun i => (byteB B i : Int))
theorem padB_pack (B : List Bool) : padB ((B.length + 7) / 8) B = packB B := rfl
theorem padB_length (m : Nat) (B : List Bool) : (padB m B).length = m := by simp [padB]
theorem padB_nil (m : Nat) : padB m [] = List.replicate m 0 := by
  apply List.ext_getElem
  · simp [padB]
  · intro i h1 h2
    simp [padB, byteB, bsum, bitAt, bw]
theorem padB_rd {m : Nat} {B : List Bool} {i : Nat} (h : i < m) : rd (padB m B) (i : Int) = (byteB B i : Int) := by
  unfold rd
  rw [Int.toNat_natCast, List.getD_eq_getElem?_getD, List.getElem?_eq_getElem (by rw [padB_length]; exact h)]
  simp [padB]
theorem padB_snoc {m : Nat} {B : List Bool} (b : Bool) (h : B.length / 8 < m) : padB m (B ++ [b]) = (padB m B).set (B.length / 8) ((byteB B (B.length / 8) + bw b (2 ^ (7 - B.length % 8)) : Nat) : Int) := by
  apply List.ext_getElem
  · simp [padB]
  · intro i h1 h2
    rw [List.getElem_set]
    simp only [padB, List.getElem_map, List.getElem_range]
    by_cases e : B.length / 8 = i
    · subst e
      rw [if_pos rfl, (last_byte B b).1]
    · rw [if_neg e]
      by_cases e2 : 8 * i + 8 ≤ B.length
      · rw [byteB_snoc_lt e2]
      · have hi : B.length ≤ 8 * i := by omega
        congr 1
        unfold byteB
        congr 1
        funext j
        rw [bitAt_snoc_gt (by omega), bitAt_ge (by omega)]
theorem padB_false {m : Nat} {B : List Bool} : padB m (B ++ [false]) = padB m B := by
  unfold padB
  apply List.map_congr_left
  intro i _
  congr 1
  unfold byteB
  congr 1
  funext j
  by_cases h : 8 * i + j < B.length
  · rw [bitAt_snoc_lt h]
  · rw [bitAt_ge (B := B) (by omega)]
    by_cases e : 8 * i + j = B.length
    · rw [e, bitAt_snoc_eq]
    · rw [bitAt_snoc_gt (by omega)]
theorem meas_lt {g n i : Nat} (h : g = n - i + 1) (h' : i < n) : n - (i + 1) + 1 < g := by omega
theorem lt_bytes {i n : Nat} (h : i < n) : i / 8 < (n + 7) / 8 := by omega
theorem idx_ar {i q j s : Nat} (hi : i < 67108864) (hq : q = i / 8) (hj : j = i % 8) (hs : s = 7 - j) : (i : Int) / 8 = (q : Int) ∧ (i : Int).tdiv 8 = (q : Int) ∧ IntKind.i64.wrap (q : Int) = (q : Int) ∧ (i : Int) % 8 = (j : Int) ∧ (i : Int).tmod 8 = (j : Int) ∧ IntKind.i64.wrap (7 - (j : Int)) = (s : Int) ∧ IntKind.u64.wrap (s : Int) = (s : Int) ∧ wrap64 (q : Int) = (q : Int) ∧ wrap64 (7 - (j : Int)) = (s : Int) := by
  have h1 : (i : Int) / 8 = (q : Int) := by omega
  have h2 : (i : Int) % 8 = (j : Int) := by omega
  have hq2 : q < 67108864 := by omega
  have hj2 : j < 8 := by omega
  refine ⟨h1, by rw [Int.tdiv_eq_ediv_of_nonneg (by omega)]; exact h1, ?_, h2, by rw [Int.tmod_eq_emod_of_nonneg (by omega)]; exact h2, ?_, ?_, ?_, ?_⟩ <;> clear h1 h2 hq hj hi
  · rw [IntKind.wrap_i64]; omega
  · rw [IntKind.wrap_i64]; omega
  · rw [IntKind.wrap_u64]; omega
  · unfold wrap64; omega
  · unfold wrap64; omega
theorem set_val {X : List Bool} {i q j s m : Nat} (hl : X.length = i) (hq : q = i / 8) (hj : j = i % 8) (hs : s = 7 - j) (hm : q < m) : (rd (padB m X) (q : Int) + 2 ^ min s 8) % 256 = ((byteB X q + bw true (2 ^ s) : Nat) : Int) := by
  rw [padB_rd hm, Nat.min_eq_left (by omega)]
  have h1 := (last_byte X true).1
  have h2 : byteB (X ++ [true]) q < 256 := bsum_lt _
  rw [hl, ← hq, ← hj, ← hs] at h1
  rw [h1] at h2
  have h3 : bw true (2 ^ s) = 2 ^ s := rfl
  have h4 : ((2 : Int) ^ s) = ((2 ^ s : Nat) : Int) := by norm_cast
  rw [h3] at h2 ⊢
  rw [h4]
  generalize 2 ^ s = t at h2 ⊢
  generalize byteB X q = z at h2 ⊢
  clear h1 h3 h4 hq hj hs
  omega
theorem xbytes_calls {w : World} {base g : Nat} {F : Nat → Prop} {B : List Bool} (h : IsX w base F g B) (hl : B.length ≤ 67108864) :
    Calls Try.prog 56 #[.pointer (some ⟨g, 0, none⟩)] w fun e w' => ∃ v0, e = .returned v0 ∧ Kd.R (Kd.int .u8) 5 w' w.heap.size (fun _ => True) v0 (packB B) ∧ Below w.heap.size w w' := by
  have H := Aside0.mk h
  obtain ⟨v, h, hF⟩ := h
  obtain ⟨A, c, rfl⟩ := own_slice h.row
  have info5 : (Try.prog.info? 5).map (fun i => (i.zero, i.size, i.bytes)) = some (some (.int .u8 0), 1, 1) := by kernel_rfl
  have HR := Aside0.mk h
  have HL := Aside0.mk hl
  have cg0 : w.cell? ⟨g, 0, none⟩ = some (.slice A B.length c) := (blk_cell h.hg 0).trans rfl
  obtain ⟨n, hn⟩ : ∃ n, n = B.length := ⟨_, rfl⟩
  obtain ⟨m, hm⟩ : ∃ m, m = (n + 7) / 8 := ⟨_, rfl⟩
  have e1 : IntKind.i64.wrap ((n : Int) + 7) = (n : Int) + 7 := by rw [IntKind.wrap_i64]; omega
  have e3 : ((n : Int) + 7).tdiv 8 = (m : Int) := by rw [Int.tdiv_eq_ediv_of_nonneg (by omega)]; omega
  have e4 : ((n : Int) + 7) / 8 = (m : Int) := by omega
  have e5 : IntKind.i64.wrap (m : Int) = (m : Int) := by rw [IntKind.wrap_i64]; omega
  have e6 : wrap64 ((n : Int) + 7) = (n : Int) + 7 := by unfold wrap64; omega
  have e7 : wrap64 (m : Int) = (m : Int) := by unfold wrap64; omega
  rw [← hn] at cg0
  have HNn := Aside0.mk hn
  have HMm := Aside0.mk hm
  have mk := print_make (P := Try.prog) 22 5 .u8 1 Try.underlying22 info5 (by decide) m (by omega)
  clear h hF hl hn hm
  go_enter Try.func56, Try.ntmps56
  go_wp2_with fail
  have hs : w.heap.size < (w.alloc (Obj.cells (madeCells #[Value.int IntKind.u8 0] m) 5)).heap.size := by show _ < (w.heap.push _).size; simp
  clear mk
  go_loopg [4] (n + 1) (fun kq v4 w' => ∃ i : Nat, v4 = .int .i64 (i : Int) ∧ Aside0 (kq = n - i + 1) ∧ Aside0 (i ≤ n) ∧ Aside0 (w'.ownsRow w.heap.size 5 1 (.slice (some ⟨w.heap.size, 0, none⟩) m m) m (nums .u8 (padB m (B.take i)))) ∧ Aside0 (Below w.heap.size w w'))
  case atStart =>
    refine ⟨0, rfl, ⟨rfl⟩, ⟨Nat.zero_le _⟩, ⟨?_⟩, ⟨below_alloc (Below.refl _ _) _⟩⟩
    rw [List.take_zero, padB_nil]
    exact own_made w w.heap.size 5 .u8 m (Nat.le_refl _) (by have := HMm.out; have := HNn.out; have := HL.out; omega)
  case round =>
    obtain ⟨i, rfl, HQ, HI, HO, HBW⟩ := hrel
    clear hs
    have hR2 := HR.out.same HBW.out.size (fun k hk _ => HBW.out.block k hk)
    have HR2 := Aside0.mk hR2
    have cg1 : wr.cell? ⟨g, 0, none⟩ = some (.slice A n c) := (blk_cell hR2.hg 0).trans (by rw [HNn.out]; rfl)
    have e8 : wrap64 ((i : Int) + 1) = ((i + 1 : Nat) : Int) := by have := HI.out; have := HNn.out; have := HL.out; unfold wrap64; omega
    clear cg0 hR2
    by_cases hlt : i < n
    · have d1 : decide ((i : Int) < (n : Int)) = true := decide_eq_true (by omega)
      have d2 : decide (i < n) = true := decide_eq_true hlt
      have d3 := eq_true (show (i : Int) < (n : Int) by omega)
      have HLT := Aside0.mk hlt
      clear hlt
      obtain ⟨r, cap, ev, hgb, hgl⟩ := HR2.out.row.form (by have := HLT.out; have := HNn.out; omega)
      simp only [Value.slice.injEq] at ev
      obtain ⟨rfl, -, rfl⟩ := ev
      have cb : wr.cell? ⟨r, i, none⟩ = some (.bool (bitAt B i)) := by
        have h1 := HR2.out.row.cells (g := r) rfl i (.bool (bitAt B i)) (by have := HLT.out; have := HNn.out; simp [bools, bitAt, List.getD_eq_getElem?_getD, List.getElem?_eq_getElem (show i < B.length by omega)])
        rwa [add_plain] at h1
      have htk : B.take (i + 1) = B.take i ++ [bitAt B i] := by
        have := HLT.out; have := HNn.out
        rw [List.take_add_one]
        simp [bitAt, List.getD_eq_getElem?_getD, List.getElem?_eq_getElem (show i < B.length by omega)]
      have htl : (B.take i).length = i := by have := HLT.out; have := HNn.out; simp; omega
      have HTK := Aside0.mk htk
      have HTL := Aside0.mk htl
      clear hgb hgl htk htl
      generalize bitAt B i = b at cb HTK
      cases b with
      | false =>
        go_wp2_with fail
        go_roundg (n - (i + 1) + 1)
        case measure => exact meas_lt HQ.out HLT.out
        case rel =>
          exact ⟨i + 1, by rw [e8], ⟨rfl⟩, ⟨HLT.out⟩, ⟨by rw [HTK.out, padB_false]; exact HO.out⟩, HBW⟩
      | true =>
        obtain ⟨q, hq⟩ : ∃ q, q = i / 8 := ⟨_, rfl⟩
        obtain ⟨j, hj⟩ : ∃ j, j = i % 8 := ⟨_, rfl⟩
        obtain ⟨s, hs⟩ : ∃ s, s = 7 - j := ⟨_, rfl⟩
        obtain ⟨f1, f2, f3, f4, f5, f6, f7, f8, f9⟩ := idx_ar (by have := HLT.out; have := HNn.out; have := HL.out; omega) hq hj hs
        have hqm : q < m := by rw [hq, HMm.out]; exact lt_bytes HLT.out
        have hqm2 : (q : Int) < (m : Int) := Int.ofNat_lt.mpr hqm
        have d4 := eq_true hqm2
        obtain ⟨co, fo⟩ := own_at HO.out (q : Int) (Int.natCast_nonneg _) hqm2
        rw [Int.toNat_natCast] at co fo
        have HQQ := Aside0.mk hq
        have HJJ := Aside0.mk hj
        have HSS := Aside0.mk hs
        clear hq hj hs hqm hqm2
        go_wp2_with fail
        go_roundg (n - (i + 1) + 1)
        case measure => exact meas_lt HQ.out HLT.out
        case rel =>
          have hv : (rd (padB m (B.take i)) (q : Int) + 2 ^ min s 8) % 256 = ((byteB (B.take i) q + bw true (2 ^ s) : Nat) : Int) := set_val HTL.out HQQ.out HJJ.out HSS.out (by rw [HQQ.out, HMm.out]; exact lt_bytes HLT.out)
          obtain ⟨s1, s2⟩ := own_store HO.out (q : Int) ((rd (padB m (B.take i)) (q : Int) + 2 ^ min s 8) % 256)
          rw [Int.toNat_natCast] at s1 s2
          refine ⟨i + 1, by rw [e8], ⟨rfl⟩, ⟨HLT.out⟩, ⟨?_⟩, ⟨HBW.out.grown s2 HBW.out.size (by intro k hk; obtain rfl := Option.some.inj hk; exact Nat.le_refl _)⟩⟩
          rw [HTK.out, padB_snoc true (by rw [HTL.out, HMm.out]; exact lt_bytes HLT.out), HTL.out, ← HQQ.out, ← HJJ.out, ← HSS.out, ← hv]
          exact s1
    · have hz : i = n := by have := HI.out; omega
      have d1 : decide ((i : Int) < (n : Int)) = false := decide_eq_false (by omega)
      have d2 : decide (i < n) = false := decide_eq_false hlt
      have HZ := Aside0.mk hz
      clear hlt hz
      go_wp2_with fail
      go_ret
      refine ⟨_, rfl, Kd.R_of_own (h1 := fun _ => rfl) ?_ (fun _ _ => trivial), HBW.out⟩
      have h9 := HO.out
      rw [HZ.out, HNn.out, List.take_length] at h9
      have h8 : padB m B = packB B := by rw [HMm.out, HNn.out]; rfl
      rw [h8] at h9
      have hm2 : m = (packB B).length := by rw [packB_length, HMm.out, HNn.out]
      rw [← hm2]
      simpa [encs, nums] using h9
end Go.Proofs.Ytlhdfdedhdcmiaa.QBits
