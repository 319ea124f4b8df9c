/- Part of a proof: functions of the program as Lean functions, and that the machine's calls come to them. Made by a program of this session (wip/mp). -/
import Derived.Test.YtaebgjdaoloceaaQBmpDx0
import Derived.Test.YtaebgjdaoloceaaQBmpDx1
namespace Go.Proofs.Ytaebgjdaoloceaa.QBmpD
open Go.RowKit Go.Proofs.YtaebgjdaoloceaaV Go.Proofs.YtaebgjdaoloceaaW.PrintWords Go.Proofs.YtaebgjdaoloceaaW.PrintLast Go.Proofs.YtaebgjdaoloceaaW.PrintMore
attribute [local go_sem] max2_int min2_int max_two min_two max_three min_three max_four min_four   -- for this text's walks alone
set_option linter.unusedVariables false
set_option linter.unusedSimpArgs false

/-! ### slices_Repeat_int_int: function 53 -/
theorem mul_one_f (n : Int) (h0 : 0 ≤ n) (h1 : n ≤ 1099511627776) : bits_Mul.f 1 n = some (0, n) := by
  have m1 : Go.bits .and .u64 1 4294967295 = 1 := by decide +kernel
  have m0 : Go.bits .and .u64 0 4294967295 = 0 := by decide +kernel
  have m2 : Go.bits .and .u64 n 4294967295 = n % 4294967296 := by
    have := bits_mask .u64 64 (by decide) (fun n h h' => by rw [IntKind.wrap_u64]; omega) 32 (by decide) n h0 (by omega)
    simpa using this
  unfold bits_Mul.f bits_Mul64.f
  rw [m1, m2, show (1 : Int) / 4294967296 = 0 from rfl]
  simp only [Int.zero_mul, Int.one_mul, IntKind.wrap_u64, Option.bind_some]
  have e1 : (0 % 18446744073709551616 + n % 4294967296 % 18446744073709551616 / 4294967296) % 18446744073709551616 = 0 := by omega
  rw [e1, m0]
  congr 2
  · omega
  · omega
theorem rep_splice {c : Int} {k : Nat} (cur : List Value) (hc : cur.take k = List.replicate k (.int .i64 c)) (hk : k ≤ cur.length) (m : Nat) (hm : k + m ≤ cur.length) :
    (splice cur k (List.replicate m (.int .i64 c))).take (k + m) = List.replicate (k + m) (.int .i64 c) ∧ (splice cur k (List.replicate m (.int .i64 c))).length = cur.length := by
  refine ⟨?_, length_splice _ _ _ (by simp; omega)⟩
  unfold splice
  rw [hc, ← List.append_assoc, List.replicate_append_replicate]
  have := List.take_left (l₁ := List.replicate (k + m) (Value.int .i64 c)) (l₂ := List.drop (k + (List.replicate m (Value.int .i64 c)).length) cur)
  rwa [List.length_replicate] at this
set_option maxRecDepth 100000 in
set_option maxHeartbeats 2000000 in
theorem rep_calls {w : World} (A0 : Option Addr) (c0 : Nat) (l0 : List Int) (c : Int) (hl0 : l0 = [c]) (hr0 : Kd.C (Kd.int .i64) w A0 l0.length l0) (n : Int) (h0 : 1 ≤ n) (h1 : n ≤ 1099511627776) :
    Calls Try.prog 53 #[.slice A0 l0.length c0, .int .i64 n] w fun e w' => ∃ v, e = .returned v ∧ Kd.R (Kd.int .i64) 3 w' w.heap.size (fun _ => True) v (List.replicate n.toNat c) ∧ Below w.heap.size w w' := by
  subst hl0
  have info3 : (Try.prog.info? 3).map (fun i => (i.zero, i.size, i.bytes)) = some (some (.int .i64 0), 1, 8) := by kernel_rfl
  obtain ⟨i0, hi, hz0, hsz, hby⟩ := info_parts info3
  have hsz1 : (Try.prog.info? 3).map (·.size) = some 1 := by rw [hi]; simp [hsz]
  obtain ⟨N, rfl⟩ := Int.eq_ofNat_of_zero_le (show 0 ≤ n by omega)
  have HN1 : Aside0 (1 ≤ N) := ⟨by omega⟩
  have HS1 := Aside0.mk hsz1
  clear hsz1
  obtain ⟨ad, e0, x0⟩ := Kd.at_int hr0 0 (by omega) (by simp)
  cases e0
  have HX : Aside0 (w.cell? ad = some (.int .i64 c)) := ⟨x0⟩
  have e1 : IntKind.u64.wrap ((1 : Int)) = 1 := by decide +kernel
  have e2 : IntKind.u64.wrap (N : Int) = (N : Int) := by rw [IntKind.wrap_u64]; omega
  have e3 : IntKind.i64.wrap (N : Int) = (N : Int) := by rw [IntKind.wrap_i64]; omega
  have e4 : wrap64 (N : Int) = (N : Int) := by unfold wrap64; omega
  have d0 : decide ((N : Int) < 0) = false := decide_eq_false (by omega)
  have d1 : decide ((9223372036854775807 : Int) < (N : Int)) = false := decide_eq_false (by omega)
  have d2 : decide (9223372036854775807 < N) = false := decide_eq_false (by omega)
  have HN : Aside0 (N ≤ 1099511627776) := ⟨by omega⟩
  have HM := Aside0.mk (mul_one_f (N : Int) (by omega) (by omega))
  rw [Int.toNat_natCast]
  clear hr0 x0 h0 h1
  rw [show ([c] : List Int).length = 1 from rfl]
  go_enter Try.func53, Try.ntmps53
  go_wp2_with fail
  refine (bits_Mul.calls 1 (N : Int) 0 (N : Int) _ HM.out).mono ?_
  rintro e w1 ⟨rfl, ⟨n1, rfl⟩⟩
  go_wp2_with (first
    | ((with_reducible refine gate_dst (N := 30) rfl ?_); refine Kd.R_make (Kd.int .i64) (w0 := w) w.heap.size 3 rfl (N := 30) rfl 22 _ _ rfl (N : Int) rfl rfl Try.underlying22 (.int .i64 0) 8 info3 rfl (by decide) (by omega) 0 (ok := fun _ => True) (okp := fun _ => True) rfl (fun _ hk => hk) trivial (by omega) (by have := HN.out; omega) (pw_below_drewN (Below.refl _ _) n1) (Nat.le_refl _) ?_; intro v1 w4 ho hb hg hnew; have HO := Aside0.mk (Kd.own_of_R ho); have HB := Aside0.mk hb; clear ho hb hg hnew; have HX4 := Aside0.mk ((HB.out.cell (World.block_lt_of_cell? w _ HX.out)).trans HX.out); obtain ⟨ol, oc⟩ := HO.out; rcases oc with ⟨rfl, oz⟩ | ⟨g, cap, cur, rfl, og, oh, ole, olm, osz, otk⟩; (exfalso; have := HN1.out; simp at oz; omega); have OG := Aside0.mk og; have OH := Aside0.mk oh; have OLE : Aside0 (N ≤ cap ∧ cap = cur.toList.length) := ⟨⟨by simpa using ole, by rw [← Array.length_toList] at osz; omega⟩⟩; have OLM := Aside0.mk olm; clear HO ol og oh ole olm osz otk; rw [List.length_replicate, Int.toNat_natCast])
    | (refine wpList_copy_splice rfl (.tmp 31) (.tmp 32) 22 22 rfl 3 Try.underlying22 HS1.out (some ⟨g, 0, none⟩) (some ad) N cap 1 c0 rfl rfl g 0 cur.toList 3 (by simpa using OH.out) [.int .i64 c] (by have h_ := HN1.out; exact (Nat.min_eq_left h_).symm) (fun _ => ⟨rfl, ad, rfl, fun j v hj => by
        cases j with
        | zero => simp at hj; subst hj; exact HX4.out
        | succ j => simp at hj⟩) (by have h1_ := HN1.out; have h2_ := OLE.out; show 0 + 1 ≤ cur.toList.length; omega) (by simp [Value.oneCell']) w.heap.size w HB.out OG.out ?_; intro w5 hh5 hb5; have H5 := Aside0.mk hh5.out; have B5 := Aside0.mk hb5; clear hh5 hb5))
  have HK1 := rep_splice (c := c) (k := 0) cur.toList (by simp) (Nat.zero_le _) 1 (by have h1_ := HN1.out; have h2_ := OLE.out; show 0 + 1 ≤ cur.toList.length; omega)
  rw [show List.replicate 1 (Value.int .i64 c) = [.int .i64 c] from rfl, Nat.zero_add] at HK1
  have HK2 := Aside0.mk HK1
  clear HK1 e1 e2 e3 e4 d0 d1 d2
  go_loopg [8] N (fun kq v8 w' => ∃ (k : Nat) (cu : List Value), v8 = .int .i64 (k : Int) ∧ Aside0 (kq = N - k + 1) ∧ Aside0 (1 ≤ k ∧ k ≤ N) ∧ Aside0 (w'.heap[g]? = some (.cells cu.toArray 3 (0, 0))) ∧ Aside0 (cu.take k = List.replicate k (.int .i64 c) ∧ cu.length = cap) ∧ Aside0 (Below w.heap.size w w'))
  case atStart => exact ⟨1, _, rfl, ⟨by have := HN1.out; omega⟩, ⟨by have := HN1.out; omega⟩, H5, ⟨⟨HK2.out.1, by rw [HK2.out.2, OLE.out.2]⟩⟩, B5⟩
  case round =>
    obtain ⟨k, cu, rfl, HQ, HK, HH, HC, HBW⟩ := hrel
    by_cases hk : k < N
    · have x1 : decide ((k : Int) < (N : Int)) = true := decide_eq_true (by omega)
      have x2 : decide (k < N) = true := decide_eq_true hk
      obtain ⟨m, hm⟩ : ∃ m, Nat.min k (N - k) = m := ⟨_, rfl⟩
      have HM := Aside0.mk hm
      have HML : Aside0 (1 ≤ m ∧ m ≤ k ∧ k + m ≤ N) := ⟨by have := HK.out; have h2 := hm; simp only [Nat.min_def] at h2; split at h2 <;> omega⟩
      have HKN := Aside0.mk hk
      have hcut1 := cut_from (P := Try.prog) 22 3 .i64 Try.underlying22 hi 1 hsz (some ⟨g, 0, none⟩) N cap (k : Int) (by omega) (by omega)
      have hcut2 := cut_to (P := Try.prog) 22 3 .i64 Try.underlying22 hi (some ⟨g, 0, none⟩) N cap (k : Int) (by omega) (by omega) OLE.out.1
      rw [Int.toNat_natCast] at hcut2
      rw [Int.toNat_natCast, if_neg (by have := OLE.out; omega), show Option.map (fun x : Addr => x.add (k * 1)) (some ⟨g, 0, none⟩) = some ⟨g, k, none⟩ from by
          have h_ := HK.out
          simp only [Option.map_some, Nat.mul_one, Addr.add, if_neg (show ¬ k = 0 by omega), Nat.zero_add]] at hcut1
      have e5 : wrap64 ((k : Int) + (m : Int)) = ((k + m : Nat) : Int) := by have := HN.out; have := HML.out; unfold wrap64; omega
      have E7 : Aside0 (IntKind.i64.wrap ((k : Int) + (m : Int)) = ((k + m : Nat) : Int)) := ⟨by rw [IntKind.wrap_i64]; have := HN.out; have := HML.out; omega⟩
      clear hm hk
      go_wp2_with fail
      have HPOS : Aside0 (∀ (j : Nat) (v : Value), (List.replicate m (Value.int .i64 c))[j]? = some v → wr.cell? ((⟨g, 0, none⟩ : Addr).add j) = some v) := ⟨fun j v hj => by
        have hjm : j < m := by have := (List.getElem?_eq_some_iff.1 hj).1; simpa using this
        have hv : v = .int .i64 c := by simpa [List.getElem?_replicate, hjm] using hj.symm
        have e6 : (⟨g, 0, none⟩ : Addr).add j = ⟨g, j, none⟩ := by unfold Addr.add; split <;> simp_all
        rw [e6, hv]
        have h2 : cu[j]? = some (.int .i64 c) := by
          have h3 : (cu.take k)[j]? = some (.int .i64 c) := by rw [HC.out.1]; simp [List.getElem?_replicate]; have := HML.out; omega
          rwa [List.getElem?_take_of_lt (by have := HML.out; omega)] at h3
        exact (blk_cell (cs := cu.toArray) (t := 3) HH.out j).trans (by simpa using h2)⟩
      have KEEP : Aside0 (Below w.heap.size w wr.drew) := ⟨below_drew HBW.out⟩
      go_region_held3 (fun w' => Below w.heap.size w w') (first | exact KEEP.out | go_keep) (first | (refine step_copy_splice rfl (.tmp 41) (.tmp 44) 22 22 rfl 3 Try.underlying22 HS1.out (some ⟨g, k, none⟩) (some ⟨g, 0, none⟩) (N - k) (cap - k) k cap rfl rfl g k cu 3 HH.out (List.replicate m (.int .i64 c)) (by rw [List.length_replicate]; exact HM.out.symm) (fun _ => ⟨rfl, ⟨g, 0, none⟩, rfl, HPOS.out⟩) (by rw [List.length_replicate]; have h1_ := HML.out; have h2_ := HC.out.2; have h3_ := OLE.out.1; omega) (by intro v hv; rw [List.eq_of_mem_replicate hv]; rfl) w.heap.size w (by first | exact HBW.out | exact below_drew HBW.out) OG.out ?_; intro w6 hh6 hb6; have H6 := Aside0.mk hh6.out; have B6 := Aside0.mk hb6; clear hh6 hb6; rw [show goInt (List.replicate m (Value.int .i64 c)).length = .int .i64 (m : Int) from by simp [goInt]]; have KEEP := B6))
      all_goals (
        go_wp2_with fail
        go_roundg (N - (k + m) + 1)
        case measure => have := HQ.out; have := HML.out; omega
        case rel =>
          have h4 := rep_splice (c := c) (k := k) cu HC.out.1 (by have h2_ := HC.out.2; have h3_ := OLE.out.1; have h1_ := HML.out; omega) m (by have h1_ := HML.out; have h2_ := HC.out.2; have h3_ := OLE.out.1; omega)
          exact ⟨k + m, _, by first | rw [e5] | rw [E7.out], ⟨rfl⟩, ⟨by have := HML.out; omega⟩, H6, ⟨⟨h4.1, by rw [h4.2]; exact HC.out.2⟩⟩, B6⟩)
    · have x1 : decide ((k : Int) < (N : Int)) = false := decide_eq_false (by omega)
      have x2 : decide (k < N) = false := decide_eq_false hk
      have hkN : k = N := by have := HK.out; omega
      subst hkN
      clear hk
      go_wp2_with fail
      go_ret
      refine ⟨_, rfl, Kd.R_of_own (h1 := fun _ => rfl) ?_ (fun _ _ => trivial), HBW.out⟩
      rw [List.length_replicate]
      refine ⟨by simp [encs], .inr ⟨g, cap, cu.toArray, rfl, OG.out, HH.out, OLE.out.1, OLM.out, by have := HC.out.2; simp; omega, ?_⟩⟩
      simpa [encs] using HC.out.1
def slices_Repeat_int_int.f (l0 : List Int) (a1 : Int) : Option (List Int) := if l0.length = 1 then (if 1 ≤ a1 then (if a1 ≤ 1099511627776 then some (List.replicate a1.toNat (rd l0 0)) else none) else none) else none
theorem slices_Repeat_int_int.calls (A0 : Option Addr) (c0 : Nat) (l0 : List Int) (a1 : Int) (r : List Int) (w : World) (hr0 : Kd.C (Kd.int .i64) w A0 l0.length l0) (hc0 : l0.length ≤ c0) (h : slices_Repeat_int_int.f l0 a1 = some r) :
    Calls Try.prog 53 #[.slice A0 l0.length c0, .int .i64 a1] w fun e w' => ∃ v0_ : Value, e = .returned (v0_) ∧ Kd.R (Kd.int .i64) 3 w' w.heap.size (fun _ => True) v0_ r ∧ Below w.heap.size w w' := by
  unfold slices_Repeat_int_int.f at h
  by_cases h1 : l0.length = 1
  · by_cases h2 : 1 ≤ a1
    · by_cases h3 : a1 ≤ 1099511627776
      · rw [if_pos h1, if_pos h2, if_pos h3] at h
        obtain rfl := Option.some.inj h
        match l0, h1 with
        | [c], _ => exact rep_calls A0 c0 [c] c rfl hr0 a1 h2 h3
      · rw [if_pos h1, if_pos h2, if_neg h3] at h; cases h
    · rw [if_pos h1, if_neg h2] at h; cases h
  · rw [if_neg h1] at h; cases h

/-! ### bitmap_Pixels: function 14 -/
mutual
def bitmap_Pixels.j0 : Nat → List Int → Int → Int → Bool → Option (List Int × Int)
 | 0,_,_,_,_=>none
 | k+1,x0,x1,x2,x20=>if x20=true then (some (([]:List Int),1)) else (bitmap_Pixels.l0 k x0 x1 ([]:List Int) x2 0)
def bitmap_Pixels.l0 : Nat → List Int → Int → List Int → Int → Int → Option (List Int × Int)
 | 0,_,_,_,_,_=>none
 | k+1,x0,x1,x8,x21,x22=>if x22 < x21 then (bitmap_Pixels.l1 k x0 x1 x8 (-1) x1 x21 x22) else (if (x0.length:Int) > 0 then (some (([]:List Int),4)) else (some (x8,0)))
def bitmap_Pixels.l1 : Nat → List Int → Int → List Int → Int → Int → Int → Int → Option (List Int × Int)
 | 0,_,_,_,_,_,_,_=>none
 | k+1,x0,x1,x8,x9,x10,x21,x22=>if x10 > 0 then (if (x0.length:Int)=0 then (some (([]:List Int),3)) else (if 0 < (x0.length:Int) then (if 1≤(x0.length:Int) then ((some (x0.drop 1:List Int)).bind fun y149=>(if (wrap64 (Go.bits .and .u8 (rd x0 0) 15))=0 then (bitmap_Pixels.j4 k y149 x1 x8 x9 x10 (wrap64 ((rd x0 0) / 16)) x10 x21 x22) else (if (wrap64 (Go.bits .and .u8 (rd x0 0) 15))=15 then (if (y149.length:Int)=0 then (some (([]:List Int),3)) else (if 0 < (y149.length:Int) then (if 1≤(y149.length:Int) then ((some (y149.drop 1:List Int)).bind fun y155=>(if (wrap64 ((wrap64 (Go.bits .and .u8 (rd x0 0) 15))+(wrap64 (rd y149 0)))) > 63 then (bitmap_Pixels.j3 k y155 x1 x8 x9 x10 (wrap64 ((rd x0 0) / 16)) (wrap64 ((wrap64 (Go.bits .and .u8 (rd x0 0) 15))+(wrap64 (rd y149 0)))) x21 x22 true) else (bitmap_Pixels.j3 k y155 x1 x8 x9 x10 (wrap64 ((rd x0 0) / 16)) (wrap64 ((wrap64 (Go.bits .and .u8 (rd x0 0) 15))+(wrap64 (rd y149 0)))) x21 x22 (decide ((wrap64 ((wrap64 (Go.bits .and .u8 (rd x0 0) 15))+(wrap64 (rd y149 0))))≥x10))))) else (none)) else (none))) else (if (wrap64 (Go.bits .and .u8 (rd x0 0) 15))≥x10 then (some (([]:List Int),4)) else (bitmap_Pixels.j4 k y149 x1 x8 x9 x10 (wrap64 ((rd x0 0) / 16)) (wrap64 (Go.bits .and .u8 (rd x0 0) 15)) x21 x22))))) else (none)) else (none))) else (bitmap_Pixels.l0 k x0 x1 x8 x21 (wrap64 (x22+1)))
def bitmap_Pixels.j4 : Nat → List Int → Int → List Int → Int → Int → Int → Int → Int → Int → Option (List Int × Int)
 | 0,_,_,_,_,_,_,_,_,_=>none
 | k+1,x0,x1,x8,x9,x10,x11,x12,x21,x22=>if x11=x9 then (some (([]:List Int),4)) else ((slices_Repeat_int_int.f (([x11]:List Int)) x12).bind fun t163=>(if x8.length+t163.length < 17592186044416 then (bitmap_Pixels.l1 k x0 x1 (x8 ++ t163) x11 (wrap64 (x10 - x12)) x21 x22) else (none)))
def bitmap_Pixels.j3 : Nat → List Int → Int → List Int → Int → Int → Int → Int → Int → Int → Bool → Option (List Int × Int)
 | 0,_,_,_,_,_,_,_,_,_,_=>none
 | k+1,x0,x1,x8,x9,x10,x11,x12,x21,x22,x66=>if x66=true then (some (([]:List Int),4)) else (bitmap_Pixels.j4 k x0 x1 x8 x9 x10 x11 x12 x21 x22)
end
def bitmap_Pixels.f (k : Nat) (l0 : List Int) (a1 : Int) (a2 : Int) : Option (List Int × Int) := (bitmap_within.f a1 1 64).bind fun t145 => (if t145 = true then ((bitmap_within.f a2 1 64).bind fun t146 => (bitmap_Pixels.j0 k l0 a1 a2 (!t146))) else (bitmap_Pixels.j0 k l0 a1 a2 true))
theorem bitmap_Pixels.mono_l:∀ k,(∀ y0 y1 y2 y3,LeO (bitmap_Pixels.j0 k y0 y1 y2 y3) (bitmap_Pixels.j0 (k+1) y0 y1 y2 y3))∧(∀ y0 y1 y2 y3 y4,LeO (bitmap_Pixels.l0 k y0 y1 y2 y3 y4) (bitmap_Pixels.l0 (k+1) y0 y1 y2 y3 y4))∧(∀ y0 y1 y2 y3 y4 y5 y6,LeO (bitmap_Pixels.l1 k y0 y1 y2 y3 y4 y5 y6) (bitmap_Pixels.l1 (k+1) y0 y1 y2 y3 y4 y5 y6))∧(∀ y0 y1 y2 y3 y4 y5 y6 y7 y8,LeO (bitmap_Pixels.j4 k y0 y1 y2 y3 y4 y5 y6 y7 y8) (bitmap_Pixels.j4 (k+1) y0 y1 y2 y3 y4 y5 y6 y7 y8))∧(∀ y0 y1 y2 y3 y4 y5 y6 y7 y8 y9,LeO (bitmap_Pixels.j3 k y0 y1 y2 y3 y4 y5 y6 y7 y8 y9) (bitmap_Pixels.j3 (k+1) y0 y1 y2 y3 y4 y5 y6 y7 y8 y9))
 | 0=>⟨fun _ _ _ _ r h=>by simp [bitmap_Pixels.j0] at h,fun _ _ _ _ _ r h=>by simp [bitmap_Pixels.l0] at h,fun _ _ _ _ _ _ _ r h=>by simp [bitmap_Pixels.l1] at h,fun _ _ _ _ _ _ _ _ _ r h=>by simp [bitmap_Pixels.j4] at h,fun _ _ _ _ _ _ _ _ _ _ r h=>by simp [bitmap_Pixels.j3] at h⟩
 | k+1=>by
  obtain ⟨ih0,ih1,ih2,ih3,ih4⟩:=bitmap_Pixels.mono_l k
  refine ⟨?_,?_,?_,?_,?_⟩
  · intro y0 y1 y2 y3
    unfold bitmap_Pixels.j0
    repeat' first
    | (with_reducible exact ih0 _ _ _ _)
    | (with_reducible exact ih1 _ _ _ _ _)
    | (with_reducible exact ih2 _ _ _ _ _ _ _)
    | (with_reducible exact ih3 _ _ _ _ _ _ _ _ _)
    | (with_reducible exact ih4 _ _ _ _ _ _ _ _ _ _)
    | (with_reducible exact LeO.refl _)
    | (with_reducible exact LeO.none _)
    | (with_reducible refine LeO.ite ?_ ?_)
    | (with_reducible refine LeO.bind ?_ (fun _=>?_))
    | exact LeO.none _
    | refine LeO.ite ?_ ?_
    | refine LeO.bind ?_ (fun _=>?_)
  · intro y0 y1 y2 y3 y4
    unfold bitmap_Pixels.l0
    repeat' first
    | (with_reducible exact ih0 _ _ _ _)
    | (with_reducible exact ih1 _ _ _ _ _)
    | (with_reducible exact ih2 _ _ _ _ _ _ _)
    | (with_reducible exact ih3 _ _ _ _ _ _ _ _ _)
    | (with_reducible exact ih4 _ _ _ _ _ _ _ _ _ _)
    | (with_reducible exact LeO.refl _)
    | (with_reducible exact LeO.none _)
    | (with_reducible refine LeO.ite ?_ ?_)
    | (with_reducible refine LeO.bind ?_ (fun _=>?_))
    | exact LeO.none _
    | refine LeO.ite ?_ ?_
    | refine LeO.bind ?_ (fun _=>?_)
  · intro y0 y1 y2 y3 y4 y5 y6
    unfold bitmap_Pixels.l1
    repeat' first
    | (with_reducible exact ih0 _ _ _ _)
    | (with_reducible exact ih1 _ _ _ _ _)
    | (with_reducible exact ih2 _ _ _ _ _ _ _)
    | (with_reducible exact ih3 _ _ _ _ _ _ _ _ _)
    | (with_reducible exact ih4 _ _ _ _ _ _ _ _ _ _)
    | (with_reducible exact LeO.refl _)
    | (with_reducible exact LeO.none _)
    | (with_reducible refine LeO.ite ?_ ?_)
    | (with_reducible refine LeO.bind ?_ (fun _=>?_))
    | exact LeO.none _
    | refine LeO.ite ?_ ?_
    | refine LeO.bind ?_ (fun _=>?_)
  · intro y0 y1 y2 y3 y4 y5 y6 y7 y8
    unfold bitmap_Pixels.j4
    repeat' first
    | (with_reducible exact ih0 _ _ _ _)
    | (with_reducible exact ih1 _ _ _ _ _)
    | (with_reducible exact ih2 _ _ _ _ _ _ _)
    | (with_reducible exact ih3 _ _ _ _ _ _ _ _ _)
    | (with_reducible exact ih4 _ _ _ _ _ _ _ _ _ _)
    | (with_reducible exact LeO.refl _)
    | (with_reducible exact LeO.none _)
    | (with_reducible refine LeO.ite ?_ ?_)
    | (with_reducible refine LeO.bind ?_ (fun _=>?_))
    | exact LeO.none _
    | refine LeO.ite ?_ ?_
    | refine LeO.bind ?_ (fun _=>?_)
  intro y0 y1 y2 y3 y4 y5 y6 y7 y8 y9
  unfold bitmap_Pixels.j3
  repeat' first
  | (with_reducible exact ih0 _ _ _ _)
  | (with_reducible exact ih1 _ _ _ _ _)
  | (with_reducible exact ih2 _ _ _ _ _ _ _)
  | (with_reducible exact ih3 _ _ _ _ _ _ _ _ _)
  | (with_reducible exact ih4 _ _ _ _ _ _ _ _ _ _)
  | (with_reducible exact LeO.refl _)
  | (with_reducible exact LeO.none _)
  | (with_reducible refine LeO.ite ?_ ?_)
  | (with_reducible refine LeO.bind ?_ (fun _=>?_))
  | exact LeO.none _
  | refine LeO.ite ?_ ?_
  | refine LeO.bind ?_ (fun _=>?_)
theorem bitmap_Pixels.mono:∀ a0 a1 a2 k,LeO (bitmap_Pixels.f k a0 a1 a2) (bitmap_Pixels.f (k+1) a0 a1 a2):=by
 intro a0 a1 a2 k
 obtain ⟨ih0,ih1,ih2,ih3,ih4⟩:=bitmap_Pixels.mono_l k
 unfold bitmap_Pixels.f
 repeat' first
  | (with_reducible exact ih0 _ _ _ _)
  | (with_reducible exact ih1 _ _ _ _ _)
  | (with_reducible exact ih2 _ _ _ _ _ _ _)
  | (with_reducible exact ih3 _ _ _ _ _ _ _ _ _)
  | (with_reducible exact ih4 _ _ _ _ _ _ _ _ _ _)
  | (with_reducible exact LeO.refl _)
  | (with_reducible exact LeO.none _)
  | (with_reducible refine LeO.ite ?_ ?_)
  | (with_reducible refine LeO.bind ?_ (fun _=>?_))
  | exact LeO.none _
  | refine LeO.ite ?_ ?_
  | refine LeO.bind ?_ (fun _=>?_)
set_option maxHeartbeats 8000000 in
set_option maxRecDepth 100000 in
theorem bitmap_Pixels.calls (k:Nat) (P0_:Nat→Prop) (A0:Option Addr) (c0:Nat) (l0:List Int) (a1:Int) (a2:Int) (r1:List Int) (r2:Int) (w:World) (hs0:Kd.V (Kd.int .u8) 5 w w.heap.size (fun k_=>P0_ k_) (.slice A0 l0.length c0) l0) (h:bitmap_Pixels.f k l0 a1 a2=some (r1,r2)) :
 Calls Try.prog 14 #[.slice A0 l0.length c0,.int .i64 a1,.int .i64 a2] w fun e w'=>∃ v0_:Value,e=.returned (.tuple #[v0_,.int .i64 r2])∧Kd.R (Kd.int .i64) 3 w' w.heap.size (fun k_=>(w.heap.size≤k_)) v0_ r1∧Below w.heap.size w w':=by
 have HO0:=Aside0.mk (show Kd.V (Kd.int .u8) 5 w w.heap.size (fun k_=>(P0_ k_∨w.heap.size≤k_)) (.slice A0 l0.length c0) l0 from Kd.V_mono hs0 (fun k_ hk=>.inl hk));have HB:=Aside0.mk (Below.refl w.heap.size w)
 have H:((bitmap_within.f a1 1 64).bind fun t145=>(if t145=true then ((bitmap_within.f a2 1 64).bind fun t146=>(bitmap_Pixels.j0 k l0 a1 a2 (!t146))) else (bitmap_Pixels.j0 k l0 a1 a2 true)))=some (r1,r2):=h
 clear h
 have HC4:=Aside0.mk H;clear H
 go_enter Try.func14,Try.ntmps14
 go_upto_region 1 with (fail)
 repeat (go_quiet (fail);go_upto_region 1 with (fail))
 go_cut [20] (fun v20 wc=>∃ (kq:Nat) (x20_3:Bool),v20=.bool x20_3∧Aside0 (bitmap_Pixels.j0 kq l0 a1 a2 x20_3=some (r1,r2))∧Aside0 (kq≤k)∧Aside0 (Kd.V (Kd.int .u8) 5 wc w.heap.size (fun k_=>(P0_ k_∨w.heap.size≤k_)) (.slice A0 l0.length c0) l0)∧Aside0 (Below w.heap.size w wc))
 case first =>
  have H:=HC4.out;clear HC4
  replace H:=Option.bind_eq_some_iff.mp H
  obtain ⟨t145,A50,H⟩:=H
  replace H:(if t145=true then ((bitmap_within.f a2 1 64).bind fun t146=>(bitmap_Pixels.j0 k l0 a1 a2 (!t146))) else (bitmap_Pixels.j0 k l0 a1 a2 true))=some (r1,r2):=H
  have A5:=Aside0.mk A50;clear A50
  by_cases c6:t145=true
  · subst c6
    have H1:((bitmap_within.f a2 1 64).bind fun t146=>(bitmap_Pixels.j0 k l0 a1 a2 (!t146)))=some (r1,r2):=by rw [if_pos rfl] at H;exact H
    clear H
    have H:=H1;clear H1
    replace H:=Option.bind_eq_some_iff.mp H
    obtain ⟨t146,A70,H⟩:=H
    replace H:(bitmap_Pixels.j0 k l0 a1 a2 (!t146))=some (r1,r2):=H
    have A7:=Aside0.mk A70;clear A70
    have H':=Aside0.mk H;clear H
    go_wp2_with (first|(go_at_call 47;(with_reducible refine (bitmap_within.calls a1 1 64 true _ A5.out).mono ?_);rintro e w' ⟨rfl,⟨nd,rfl⟩⟩;(try first|exact ⟨rfl,_,World.drewN_drewN _ _ _⟩|exact ⟨rfl,_,Eq.trans (World.drewN_drewN _ _ _) (congrArg (World.drewN _) (Nat.add_assoc _ _ _))⟩))|(go_at_call 47;(with_reducible refine (bitmap_within.calls a2 1 64 t146 _ A7.out).mono ?_);rintro e w' ⟨rfl,⟨nd,rfl⟩⟩;(try first|exact ⟨rfl,_,World.drewN_drewN _ _ _⟩|exact ⟨rfl,_,Eq.trans (World.drewN_drewN _ _ _) (congrArg (World.drewN _) (Nat.add_assoc _ _ _))⟩)))
    repeat (go_quiet (first|(go_at_call 47;(with_reducible refine (bitmap_within.calls a1 1 64 true _ A5.out).mono ?_);rintro e w' ⟨rfl,⟨nd,rfl⟩⟩;(try first|exact ⟨rfl,_,World.drewN_drewN _ _ _⟩|exact ⟨rfl,_,Eq.trans (World.drewN_drewN _ _ _) (congrArg (World.drewN _) (Nat.add_assoc _ _ _))⟩))|(go_at_call 47;(with_reducible refine (bitmap_within.calls a2 1 64 t146 _ A7.out).mono ?_);rintro e w' ⟨rfl,⟨nd,rfl⟩⟩;(try first|exact ⟨rfl,_,World.drewN_drewN _ _ _⟩|exact ⟨rfl,_,Eq.trans (World.drewN_drewN _ _ _) (congrArg (World.drewN _) (Nat.add_assoc _ _ _))⟩)));try go_wp2_with (first|(go_at_call 47;(with_reducible refine (bitmap_within.calls a1 1 64 true _ A5.out).mono ?_);rintro e w' ⟨rfl,⟨nd,rfl⟩⟩;(try first|exact ⟨rfl,_,World.drewN_drewN _ _ _⟩|exact ⟨rfl,_,Eq.trans (World.drewN_drewN _ _ _) (congrArg (World.drewN _) (Nat.add_assoc _ _ _))⟩))|(go_at_call 47;(with_reducible refine (bitmap_within.calls a2 1 64 t146 _ A7.out).mono ?_);rintro e w' ⟨rfl,⟨nd,rfl⟩⟩;(try first|exact ⟨rfl,_,World.drewN_drewN _ _ _⟩|exact ⟨rfl,_,Eq.trans (World.drewN_drewN _ _ _) (congrArg (World.drewN _) (Nat.add_assoc _ _ _))⟩))))
    go_meet
    case rel=>exact ⟨_,(!t146),okV,H',⟨by first|omega|exact Nat.le_refl _⟩,⟨by (with_reducible repeat (first|apply Kd.V_alloc|apply Kd.V_drewN|apply Kd.V_drew));exact HO0.out⟩,⟨belV HB.out⟩⟩
  replace c6:=Bool.eq_false_iff.mpr c6;subst c6
  have H1:(bitmap_Pixels.j0 k l0 a1 a2 true)=some (r1,r2):=by rw [if_neg (show ¬ (false=true) by decide)] at H;exact H
  clear H
  have H:=H1;clear H1
  have H':=Aside0.mk H;clear H
  go_wp2_with (first|(go_at_call 47;(with_reducible refine (bitmap_within.calls a1 1 64 false _ A5.out).mono ?_);rintro e w' ⟨rfl,⟨nd,rfl⟩⟩;(try first|exact ⟨rfl,_,World.drewN_drewN _ _ _⟩|exact ⟨rfl,_,Eq.trans (World.drewN_drewN _ _ _) (congrArg (World.drewN _) (Nat.add_assoc _ _ _))⟩)))
  repeat (go_quiet (first|(go_at_call 47;(with_reducible refine (bitmap_within.calls a1 1 64 false _ A5.out).mono ?_);rintro e w' ⟨rfl,⟨nd,rfl⟩⟩;(try first|exact ⟨rfl,_,World.drewN_drewN _ _ _⟩|exact ⟨rfl,_,Eq.trans (World.drewN_drewN _ _ _) (congrArg (World.drewN _) (Nat.add_assoc _ _ _))⟩)));try go_wp2_with (first|(go_at_call 47;(with_reducible refine (bitmap_within.calls a1 1 64 false _ A5.out).mono ?_);rintro e w' ⟨rfl,⟨nd,rfl⟩⟩;(try first|exact ⟨rfl,_,World.drewN_drewN _ _ _⟩|exact ⟨rfl,_,Eq.trans (World.drewN_drewN _ _ _) (congrArg (World.drewN _) (Nat.add_assoc _ _ _))⟩))))
  go_meet
  case rel=>exact ⟨_,(true),okV,H',⟨by first|omega|exact Nat.le_refl _⟩,⟨by (with_reducible repeat (first|apply Kd.V_alloc|apply Kd.V_drewN|apply Kd.V_drew));exact HO0.out⟩,⟨belV HB.out⟩⟩
 case rest =>
  clear HC4
  try clear c1;try clear p2;try clear c6
  obtain ⟨kq,x20_3,rfl,HA,HJ3,HO_0,HB⟩:=hcut
  cases kq with
  | zero=>exact absurd HA.out (by simp [bitmap_Pixels.j0])
  | succ kj3 =>
   have H:=HA.out;clear HA
   simp only [bitmap_Pixels.j0] at H
   by_cases c8:x20_3=true
   · subst c8
     have H1:(some (([]:List Int),1))=some (r1,r2):=by rw [if_pos rfl] at H;exact H
     clear H
     have H:=H1;clear H1
     simp only [Option.some.injEq,Prod.mk.injEq] at H
     obtain ⟨rfl,rfl⟩:=H
     go_wp2
     repeat (go_quiet (fail);try go_wp2)
     go_ret2
     exact ⟨_,by first|rfl|(simp [errW_none,errW_some] <;> rfl)|(simp [*,errW_none,errW_some] <;> rfl),by first|exact Kd.R_nil _ _ _ _ _|exact Kd.N_nil _ _ _ _ _|exact Kd.V_nil _ _ _ _ _|exact Kd.Q_nil _ _ _ _ _|exact Kd.S_nil _ _ _ _ _,by repeat (first|(with_reducible first|exact HB.out|apply below_alloc|apply pw_below_drewN|apply below_drew1)|exact HB.out)⟩
   replace c8:=Bool.eq_false_iff.mpr c8;subst c8
   have H1:(bitmap_Pixels.l0 kj3 l0 a1 ([]:List Int) a2 0)=some (r1,r2):=by rw [if_neg (show ¬ (false=true) by decide)] at H;exact H
   clear H
   have H:=H1;clear H1
   have H':=Aside0.mk H;clear H
   go_wp2
   repeat (go_quiet (fail);try go_wp2)
   go_loopg [0,8,22] kj3 (fun kq v0 v8 v22 w'=>∃ (x0_2:List Int) (x8_2:List Int) (x22_2:Int),v22=.int .i64 x22_2∧Aside0 (bitmap_Pixels.l0 kq x0_2 a1 x8_2 a2 x22_2=some (r1,r2))∧Aside0 (kq≤kj3)∧Aside0 (Kd.V (Kd.int .u8) 5 w' w.heap.size (fun k_=>(P0_ k_∨w.heap.size≤k_)∧some k_≠(v8:Value).ownBlock) v0 x0_2)∧Aside0 (Kd.R (Kd.int .i64) 3 w' w.heap.size (fun k_=>(w.heap.size≤k_)) v8 x8_2)∧Aside0 (Below w.heap.size w w'))
   case atStart=>exact ⟨(l0),(([]:List Int)),(0),okV,H',⟨Nat.le_refl _⟩,⟨by (with_reducible repeat (first|apply Kd.V_alloc|apply Kd.V_drewN|apply Kd.V_drew));exact Kd.V_mono HO_0.out (fun _ hk=>⟨hk,(by simp [Value.ownBlock])⟩)⟩,⟨by first|exact Kd.R_nil _ _ _ _ _|exact Kd.N_nil _ _ _ _ _|exact Kd.V_nil _ _ _ _ _|exact Kd.Q_nil _ _ _ _ _|exact Kd.S_nil _ _ _ _ _⟩,⟨belV HB.out⟩⟩
   case round =>
    clear H'
    try clear c1;try clear p2 p2;try clear c6;try clear c8
    obtain ⟨x0_2,x8_2,x22_2,rfl,HA,HK2,HO_0,HO_8,HB⟩:=hrel
    cases gk with
    | zero=>exact absurd HA.out (by simp [bitmap_Pixels.l0])
    | succ k2 =>
     have H:=HA.out;clear HA
     simp only [bitmap_Pixels.l0] at H
     by_cases c9:x22_2 < a2
     · rw [if_pos c9] at H
       have c9b0:decide (x22_2 < a2)=true:=decide_eq_true c9;clear c9
       have H':=Aside0.mk H;clear H
       go_wp2
       repeat (go_quiet (fail);try go_wp2)
       go_loopg [0,8,9,10] k2 (fun kq v0 v8 v9 v10 w'=>∃ (x0_3:List Int) (x8_3:List Int) (x9_3:Int) (x10_3:Int),v9=.int .i64 x9_3∧v10=.int .i64 x10_3∧Aside0 (bitmap_Pixels.l1 kq x0_3 a1 x8_3 x9_3 x10_3 a2 x22_2=some (r1,r2))∧Aside0 (kq≤k2)∧Aside0 (Kd.V (Kd.int .u8) 5 w' w.heap.size (fun k_=>(P0_ k_∨w.heap.size≤k_)∧some k_≠(v8:Value).ownBlock) v0 x0_3)∧Aside0 (Kd.R (Kd.int .i64) 3 w' w.heap.size (fun k_=>(w.heap.size≤k_)) v8 x8_3)∧Aside0 (Below w.heap.size w w'))
       case atStart=>exact ⟨(x0_2),(x8_2),((-1)),(a1),okV,okV,H',⟨Nat.le_refl _⟩,⟨by (with_reducible repeat (first|apply Kd.V_alloc|apply Kd.V_drewN|apply Kd.V_drew));exact HO_0.out⟩,⟨rowV HO_8.out⟩,⟨belV HB.out⟩⟩
       case round =>
        clear H'
        try clear c1;try clear p2 p2;try clear c6;try clear c8;try clear c9;try clear c9b0
        obtain ⟨x0_3,x8_3,x9_3,x10_3,rfl,rfl,HA,HK3,HO_0,HO_8,HB⟩:=hrel
        cases gk with
        | zero=>exact absurd HA.out (by simp [bitmap_Pixels.l1])
        | succ k3 =>
         have H:=HA.out;clear HA
         simp only [bitmap_Pixels.l1] at H
         by_cases c10:x10_3 > 0
         · rw [if_pos c10] at H
           have c10b0:decide (0 < x10_3)=true:=decide_eq_true c10;clear c10
           by_cases c11:(x0_3.length:Int)=0
           · rw [if_pos c11] at H
             have c11b0:((x0_3.length:Int) == 0)=true:=beq_iff_eq.mpr c11
             have c11b1:((x0_3.length:Int) != 0)=false:=bne_eq_false_iff_eq.mpr c11;clear c11
             simp only [Option.some.injEq,Prod.mk.injEq] at H
             obtain ⟨rfl,rfl⟩:=H
             obtain ⟨Ao12,co12,eo12⟩:=Kd.V_slice HO_0.out;subst eo12
             go_wp2
             repeat (go_quiet (fail);try go_wp2)
             go_ret2
             exact ⟨_,by first|rfl|(simp [errW_none,errW_some] <;> rfl)|(simp [*,errW_none,errW_some] <;> rfl),by first|exact Kd.R_nil _ _ _ _ _|exact Kd.N_nil _ _ _ _ _|exact Kd.V_nil _ _ _ _ _|exact Kd.Q_nil _ _ _ _ _|exact Kd.S_nil _ _ _ _ _,by repeat (first|(with_reducible first|exact HB.out|apply below_alloc|apply pw_below_drewN|apply below_drew1)|exact HB.out)⟩
           rw [if_neg c11] at H
           have c11b0:((x0_3.length:Int) == 0)=false:=beq_eq_false_iff_ne.mpr c11
           have c11b1:((x0_3.length:Int) != 0)=true:=bne_iff_ne.mpr c11
           have c11b2:¬ (x0_3=[]):=fun h_=>c11 (by rw [h_];rfl)
           by_cases c13:0 < (x0_3.length:Int)
           · rw [if_pos c13] at H
             have c13b0:decide (0 < (x0_3.length:Int))=true:=decide_eq_true c13
             have c13b1:decide (0 < x0_3.length)=true:=decide_eq_true (by omega);clear c13
             by_cases c14:1≤(x0_3.length:Int)
             · rw [if_pos c14] at H
               have c14b0:=eq_true c14
               have c14b1:decide (1≤(x0_3.length:Int))=true:=decide_eq_true c14;clear c14
               obtain ⟨y149,hy149⟩:∃ y_:List Int,y_=(x0_3.drop 1):=⟨_,rfl⟩
               replace H:(if (wrap64 (Go.bits .and .u8 (rd x0_3 0) 15))=0 then (bitmap_Pixels.j4 k3 y149 a1 x8_3 x9_3 x10_3 (wrap64 ((rd x0_3 0) / 16)) x10_3 a2 x22_2) else (if (wrap64 (Go.bits .and .u8 (rd x0_3 0) 15))=15 then (if (y149.length:Int)=0 then (some (([]:List Int),3)) else (if 0 < (y149.length:Int) then (if 1≤(y149.length:Int) then ((some (y149.drop 1:List Int)).bind fun y155=>(if (wrap64 ((wrap64 (Go.bits .and .u8 (rd x0_3 0) 15))+(wrap64 (rd y149 0)))) > 63 then (bitmap_Pixels.j3 k3 y155 a1 x8_3 x9_3 x10_3 (wrap64 ((rd x0_3 0) / 16)) (wrap64 ((wrap64 (Go.bits .and .u8 (rd x0_3 0) 15))+(wrap64 (rd y149 0)))) a2 x22_2 true) else (bitmap_Pixels.j3 k3 y155 a1 x8_3 x9_3 x10_3 (wrap64 ((rd x0_3 0) / 16)) (wrap64 ((wrap64 (Go.bits .and .u8 (rd x0_3 0) 15))+(wrap64 (rd y149 0)))) a2 x22_2 (decide ((wrap64 ((wrap64 (Go.bits .and .u8 (rd x0_3 0) 15))+(wrap64 (rd y149 0))))≥x10_3))))) else (none)) else (none))) else (if (wrap64 (Go.bits .and .u8 (rd x0_3 0) 15))≥x10_3 then (some (([]:List Int),4)) else (bitmap_Pixels.j4 k3 y149 a1 x8_3 x9_3 x10_3 (wrap64 ((rd x0_3 0) / 16)) (wrap64 (Go.bits .and .u8 (rd x0_3 0) 15)) a2 x22_2))))=some (r1,r2):=by first|(rw [hy149];with_reducible exact H)|(have H2_:=(Option.bind_some _ _).symm.trans H;rw [hy149];with_reducible exact H2_)|(have H2_:=(Option.bind_some _ _).symm.trans H;with_reducible exact H2_)|with_reducible exact H|(rw [hy149];exact H)|exact H
               have Ny149:=Aside0.mk hy149;clear hy149
               have HC15:=Aside0.mk H;clear H
               obtain ⟨Ao16,co16,eo16⟩:=Kd.V_slice HO_0.out;subst eo16
               have p147:0≤(0:Int):=(by omega)
               have q147:0 < (x0_3.length:Int):=of_decide_eq_true asV
               obtain ⟨ad147,e147,hx147_0⟩:=Kd.at_int (Kd.V_reads' HO_0.out).2.2 0 p147 q147
               cases e147
               have qi147:(0 < x0_3.length)=True:=eq_true (by omega)
               (try rw [show ((0:Int)).toNat=0 from rfl] at hx147_0)
               (try rw [Addr.add_zero'] at hx147_0)
               replace p147:=eq_true p147
               replace q147:=eq_true q147
               have p148:0≤(0:Int):=(by omega)
               have q148:0 < (x0_3.length:Int):=of_decide_eq_true asV
               obtain ⟨ad148,e148,hx148_0⟩:=Kd.at_int (Kd.V_reads' HO_0.out).2.2 0 p148 q148
               obtain rfl:ad147=ad148:=(by injection e148)
               have qi148:(0 < x0_3.length)=True:=eq_true (by omega)
               (try rw [show ((0:Int)).toNat=0 from rfl] at hx148_0)
               (try rw [Addr.add_zero'] at hx148_0)
               replace p148:=eq_true p148
               replace q148:=eq_true q148
               have q17:(1:Int)≤((x0_3.length:Int):Int):=of_decide_eq_true asV
               obtain ⟨i017,hi017,_,hsz17,_⟩:=info_parts info5
               have hroom17:x0_3.length≤co16:=(Kd.V_reads' HO_0.out).2.1
               have hC17:Kd.F (Kd.int .u8) _ _ (some ad147) x0_3.length x0_3:=(Kd.V_at (base:=w.heap.size) HO_0.out).2.2
               have hcut17:=cut_from (P:=Try.prog) 23 5 .i64 Try.underlying23 hi017 1 hsz17 (some ad147) x0_3.length co16 1 (by omega) q17
               have hr17:=Kd.F_cut (m:=(1:Int).toNat) (c:=co16) hC17 (by omega) hroom17
               obtain ⟨A17,hA17⟩:∃ A1,A1=(if co16=(1:Int).toNat then (some ad147) else ((some ad147):Option Addr).map (·.add ((1:Int).toNat*1))):=⟨_,rfl⟩
               obtain ⟨c17,hc17⟩:∃ c1,c1=co16 - (1:Int).toNat:=⟨_,rfl⟩
               have hy17:y149.length=x0_3.length - (1:Int).toNat:=(by rw [Ny149.out,List.length_drop] <;> omega)
               rw [show (x0_3).drop (1:Int).toNat=y149 from Ny149.out.symm] at hr17
               replace hr17:Kd.F (Kd.int .u8) _ _ A17 y149.length y149:=(by rw [hA17];exact hr17)
               rw [← hy17,← hA17,← hc17] at hcut17
               have HO153:=Aside0.mk (show Kd.V (Kd.int .u8) 5 _ w.heap.size _ (.slice A17 y149.length c17) y149 from Kd.V_mk (by rw [hy17,hc17];exact Nat.sub_le_sub_right hroom17 _) hr17)
               have HC153:=Aside0.mk (show y149.length≤c17 from by rw [hy17,hc17];exact Nat.sub_le_sub_right hroom17 _);clear hr17 hC17 hroom17 hi017 hsz17 hc17
               have KY17:=Aside0.mk hy17
               have KA17:=Aside0.mk hA17;clear hy17 hA17
               replace q17:=eq_true q17
               go_upto_block 4 with (fail)
               repeat (go_quiet (fail);go_upto_block 4 with (fail))
               go_cut [0,12] (fun v0 v12 wc=>∃ (kq:Nat) (x0_14:List Int) (x12_14:Int),v12=.int .i64 x12_14∧Aside0 (bitmap_Pixels.j4 kq x0_14 a1 x8_3 x9_3 x10_3 (wrap64 ((rd x0_3 0) / 16)) x12_14 a2 x22_2=some (r1,r2))∧Aside0 (kq≤k3)∧Aside0 (Kd.V (Kd.int .u8) 5 wc w.heap.size (fun k_=>(P0_ k_∨w.heap.size≤k_)∧some k_≠(u8:Value).ownBlock) v0 x0_14)∧Aside0 (Kd.R (Kd.int .i64) 3 wc w.heap.size (fun k_=>(w.heap.size≤k_)) u8 x8_3)∧Aside0 (Below w.heap.size w wc))
               case first =>
                have H:=HC15.out;clear HC15
                by_cases c18:(wrap64 (Go.bits .and .u8 (rd x0_3 0) 15))=0
                · rw [if_pos c18] at H
                  have c18b0:((wrap64 (Go.bits .and .u8 (rd x0_3 0) 15)) == 0)=true:=beq_iff_eq.mpr c18
                  have c18b1:((wrap64 (Go.bits .and .u8 (rd x0_3 0) 15)) != 0)=false:=bne_eq_false_iff_eq.mpr c18;clear c18
                  (first|rw [c18b0]|(simp only [i64_w,i32_w];rw [c18b0])|rw [c18b1]|skip)
                  have H':=Aside0.mk H;clear H
                  go_wp2
                  repeat (go_quiet (fail);try go_wp2)
                  go_meet
                  case rel=>exact ⟨_,(y149),(x10_3),okV,H',⟨by have:=HJ3.out;have:=HK2.out;have:=HK3.out;first|omega|exact Nat.le_refl _⟩,⟨by (with_reducible repeat (first|apply Kd.V_alloc|apply Kd.V_drewN|apply Kd.V_drew));exact HO153.out⟩,⟨rowV HO_8.out⟩,⟨belV HB.out⟩⟩
                rw [if_neg c18] at H
                have c18b0:((wrap64 (Go.bits .and .u8 (rd x0_3 0) 15)) == 0)=false:=beq_eq_false_iff_ne.mpr c18
                have c18b1:((wrap64 (Go.bits .and .u8 (rd x0_3 0) 15)) != 0)=true:=bne_iff_ne.mpr c18
                (first|rw [c18b0]|(simp only [i64_w,i32_w];rw [c18b0])|rw [c18b1]|skip)
                by_cases c19:(wrap64 (Go.bits .and .u8 (rd x0_3 0) 15))=15
                · rw [if_pos c19] at H
                  have c19b0:((wrap64 (Go.bits .and .u8 (rd x0_3 0) 15)) == 15)=true:=beq_iff_eq.mpr c19
                  have c19b1:((wrap64 (Go.bits .and .u8 (rd x0_3 0) 15)) != 15)=false:=bne_eq_false_iff_eq.mpr c19;clear c19
                  by_cases c20:(y149.length:Int)=0
                  · rw [if_pos c20] at H
                    have c20b0:((y149.length:Int) == 0)=true:=beq_iff_eq.mpr c20
                    have c20b1:((y149.length:Int) != 0)=false:=bne_eq_false_iff_eq.mpr c20;clear c20
                    simp only [Option.some.injEq,Prod.mk.injEq] at H
                    obtain ⟨rfl,rfl⟩:=H
                    go_wp2
                    repeat (go_quiet (fail);try go_wp2)
                    go_ret2
                    exact ⟨_,by first|rfl|(simp [errW_none,errW_some] <;> rfl)|(simp [*,errW_none,errW_some] <;> rfl),by first|exact Kd.R_nil _ _ _ _ _|exact Kd.N_nil _ _ _ _ _|exact Kd.V_nil _ _ _ _ _|exact Kd.Q_nil _ _ _ _ _|exact Kd.S_nil _ _ _ _ _,by repeat (first|(with_reducible first|exact HB.out|apply below_alloc|apply pw_below_drewN|apply below_drew1)|exact HB.out)⟩
                  rw [if_neg c20] at H
                  have c20b0:((y149.length:Int) == 0)=false:=beq_eq_false_iff_ne.mpr c20
                  have c20b1:((y149.length:Int) != 0)=true:=bne_iff_ne.mpr c20
                  have c20b2:¬ (y149=[]):=fun h_=>c20 (by rw [h_];rfl)
                  by_cases c21:0 < (y149.length:Int)
                  · rw [if_pos c21] at H
                    have c21b0:decide (0 < (y149.length:Int))=true:=decide_eq_true c21
                    have c21b1:decide (0 < y149.length)=true:=decide_eq_true (by omega);clear c21
                    by_cases c22:1≤(y149.length:Int)
                    · rw [if_pos c22] at H
                      have c22b0:=eq_true c22
                      have c22b1:decide (1≤(y149.length:Int))=true:=decide_eq_true c22;clear c22
                      obtain ⟨y155,hy155⟩:∃ y_:List Int,y_=(y149.drop 1):=⟨_,rfl⟩
                      replace H:(if (wrap64 ((wrap64 (Go.bits .and .u8 (rd x0_3 0) 15))+(wrap64 (rd y149 0)))) > 63 then (bitmap_Pixels.j3 k3 y155 a1 x8_3 x9_3 x10_3 (wrap64 ((rd x0_3 0) / 16)) (wrap64 ((wrap64 (Go.bits .and .u8 (rd x0_3 0) 15))+(wrap64 (rd y149 0)))) a2 x22_2 true) else (bitmap_Pixels.j3 k3 y155 a1 x8_3 x9_3 x10_3 (wrap64 ((rd x0_3 0) / 16)) (wrap64 ((wrap64 (Go.bits .and .u8 (rd x0_3 0) 15))+(wrap64 (rd y149 0)))) a2 x22_2 (decide ((wrap64 ((wrap64 (Go.bits .and .u8 (rd x0_3 0) 15))+(wrap64 (rd y149 0))))≥x10_3))))=some (r1,r2):=by first|(rw [hy155];with_reducible exact H)|(have H2_:=(Option.bind_some _ _).symm.trans H;rw [hy155];with_reducible exact H2_)|(have H2_:=(Option.bind_some _ _).symm.trans H;with_reducible exact H2_)|with_reducible exact H|(rw [hy155];exact H)|exact H
                      have Ny155:=Aside0.mk hy155;clear hy155
                      have HC23:=Aside0.mk H;clear H
                      have p154:0≤(0:Int):=(by omega)
                      have q154:0 < (y149.length:Int):=of_decide_eq_true asV
                      obtain ⟨ad154,e154,hx154_0⟩:=Kd.at_int (Kd.V_reads' HO153.out).2.2 0 p154 q154
                      cases e154
                      have qi154:(0 < y149.length)=True:=eq_true (by omega)
                      (try rw [show ((0:Int)).toNat=0 from rfl] at hx154_0)
                      (try rw [Addr.add_zero'] at hx154_0)
                      replace p154:=eq_true p154
                      replace q154:=eq_true q154
                      have q24:(1:Int)≤((y149.length:Int):Int):=of_decide_eq_true asV
                      obtain ⟨i024,hi024,_,hsz24,_⟩:=info_parts info5
                      have hroom24:y149.length≤c17:=(Kd.V_reads' HO153.out).2.1
                      have hC24:Kd.F (Kd.int .u8) _ _ (some ad154) y149.length y149:=(Kd.V_at (base:=w.heap.size) HO153.out).2.2
                      have hcut24:=cut_from (P:=Try.prog) 23 5 .i64 Try.underlying23 hi024 1 hsz24 (some ad154) y149.length c17 1 (by omega) q24
                      have hr24:=Kd.F_cut (m:=(1:Int).toNat) (c:=c17) hC24 (by omega) hroom24
                      obtain ⟨A24,hA24⟩:∃ A1,A1=(if c17=(1:Int).toNat then (some ad154) else ((some ad154):Option Addr).map (·.add ((1:Int).toNat*1))):=⟨_,rfl⟩
                      obtain ⟨c24,hc24⟩:∃ c1,c1=c17 - (1:Int).toNat:=⟨_,rfl⟩
                      have hy24:y155.length=y149.length - (1:Int).toNat:=(by rw [Ny155.out,List.length_drop] <;> omega)
                      rw [show (y149).drop (1:Int).toNat=y155 from Ny155.out.symm] at hr24
                      replace hr24:Kd.F (Kd.int .u8) _ _ A24 y155.length y155:=(by rw [hA24];exact hr24)
                      rw [← hy24,← hA24,← hc24] at hcut24
                      have HO159:=Aside0.mk (show Kd.V (Kd.int .u8) 5 _ w.heap.size _ (.slice A24 y155.length c24) y155 from Kd.V_mk (by rw [hy24,hc24];exact Nat.sub_le_sub_right hroom24 _) hr24)
                      have HC159:=Aside0.mk (show y155.length≤c24 from by rw [hy24,hc24];exact Nat.sub_le_sub_right hroom24 _);clear hr24 hC24 hroom24 hi024 hsz24 hc24
                      have KY24:=Aside0.mk hy24
                      have KA24:=Aside0.mk hA24;clear hy24 hA24
                      replace q24:=eq_true q24
                      go_upto_region 20 with (fail)
                      repeat (go_quiet (fail);go_upto_region 20 with (fail))
                      go_cut [66] (fun v66 wc=>∃ (kq:Nat) (x66_22:Bool),v66=.bool x66_22∧Aside0 (bitmap_Pixels.j3 kq y155 a1 x8_3 x9_3 x10_3 (wrap64 ((rd x0_3 0) / 16)) (wrap64 ((wrap64 (Go.bits .and .u8 (rd x0_3 0) 15))+(wrap64 (rd y149 0)))) a2 x22_2 x66_22=some (r1,r2))∧Aside0 (kq≤k3)∧Aside0 (Kd.V (Kd.int .u8) 5 wc w.heap.size (fun k_=>(P0_ k_∨w.heap.size≤k_)∧some k_≠(u8:Value).ownBlock) (.slice A24 y155.length c24) y155)∧Aside0 (Kd.R (Kd.int .i64) 3 wc w.heap.size (fun k_=>(w.heap.size≤k_)) u8 x8_3)∧Aside0 (Below w.heap.size w wc))
                      case first =>
                       have H:=HC23.out;clear HC23
                       by_cases c25:(wrap64 ((wrap64 (Go.bits .and .u8 (rd x0_3 0) 15))+(wrap64 (rd y149 0)))) > 63
                       · rw [if_pos c25] at H
                         have c25b0:decide (63 < (wrap64 ((wrap64 (Go.bits .and .u8 (rd x0_3 0) 15))+(wrap64 (rd y149 0)))))=true:=decide_eq_true c25;clear c25
                         (first|rw [c25b0]|(simp only [i64_w,i32_w];rw [c25b0])|rw [c25b1]|skip)
                         have H':=Aside0.mk H;clear H
                         go_wp2
                         repeat (go_quiet (fail);try go_wp2)
                         go_meet
                         case rel=>exact ⟨_,(true),okV,H',⟨by have:=HJ3.out;have:=HK2.out;have:=HK3.out;first|omega|exact Nat.le_refl _⟩,⟨by (with_reducible repeat (first|apply Kd.V_alloc|apply Kd.V_drewN|apply Kd.V_drew));exact HO159.out⟩,⟨rowV HO_8.out⟩,⟨belV HB.out⟩⟩
                       rw [if_neg c25] at H
                       have c25b0:decide (63 < (wrap64 ((wrap64 (Go.bits .and .u8 (rd x0_3 0) 15))+(wrap64 (rd y149 0)))))=false:=decide_eq_false c25;clear c25
                       (first|rw [c25b0]|(simp only [i64_w,i32_w];rw [c25b0])|rw [c25b1]|skip)
                       have H':=Aside0.mk H;clear H
                       go_wp2
                       repeat (go_quiet (fail);try go_wp2)
                       go_meet
                       case rel=>exact ⟨_,(decide ((wrap64 ((wrap64 (Go.bits .and .u8 (rd x0_3 0) 15))+(wrap64 (rd y149 0))))≥x10_3)),okV,H',⟨by have:=HJ3.out;have:=HK2.out;have:=HK3.out;first|omega|exact Nat.le_refl _⟩,⟨by (with_reducible repeat (first|apply Kd.V_alloc|apply Kd.V_drewN|apply Kd.V_drew));exact HO159.out⟩,⟨rowV HO_8.out⟩,⟨belV HB.out⟩⟩
                      case rest =>
                       clear HC23
                       try clear c1;try clear p1;try clear q1;try clear hx1;try clear qi1;try clear c2;try clear p2 p2;try clear q2;try clear c6;try clear p6;try clear c8;try clear c9;try clear c9b0;try clear c10;try clear c10b0;try clear c11;try clear c11b0;try clear c11b1;try clear c11b2;try clear c13;try clear c13b0;try clear c13b1;try clear c14;try clear c14b0;try clear c14b1;try clear p14;try clear q14;try clear hx14;try clear qi14;try clear p15;try clear q15;try clear hx15;try clear qi15;try clear c17;try clear q17 q17;try clear c18;try clear c18b0;try clear c18b1;try clear c19;try clear c19b0;try clear c19b1;try clear c20;try clear c20b0;try clear c20b1;try clear c20b2;try clear c21;try clear c21b0;try clear c21b1;try clear c22;try clear c22b0;try clear c22b1;try clear c24;try clear q24 q24;try clear c25;try clear c25b0;try clear c25b1;try clear hx147_0;try clear hx148_0;try clear hx154_0;try clear p147;try clear p148;try clear p154;try clear q147;try clear q148;try clear q154
                       obtain ⟨kq,x66_22,rfl,HA,HJ22,HO_0,HO_8,HB⟩:=hcut
                       cases kq with
                       | zero=>exact absurd HA.out (by simp [bitmap_Pixels.j3])
                       | succ kj22 =>
                        have H:=HA.out;clear HA
                        simp only [bitmap_Pixels.j3] at H
                        by_cases c26:x66_22=true
                        · subst c26
                          have H1:(some (([]:List Int),4))=some (r1,r2):=by rw [if_pos rfl] at H;exact H
                          clear H
                          have H:=H1;clear H1
                          simp only [Option.some.injEq,Prod.mk.injEq] at H
                          obtain ⟨rfl,rfl⟩:=H
                          go_wp2
                          repeat (go_quiet (fail);try go_wp2)
                          go_ret2
                          exact ⟨_,by first|rfl|(simp [errW_none,errW_some] <;> rfl)|(simp [*,errW_none,errW_some] <;> rfl),by first|exact Kd.R_nil _ _ _ _ _|exact Kd.N_nil _ _ _ _ _|exact Kd.V_nil _ _ _ _ _|exact Kd.Q_nil _ _ _ _ _|exact Kd.S_nil _ _ _ _ _,by repeat (first|(with_reducible first|exact HB.out|apply below_alloc|apply pw_below_drewN|apply below_drew1)|exact HB.out)⟩
                        replace c26:=Bool.eq_false_iff.mpr c26;subst c26
                        have H1:(bitmap_Pixels.j4 kj22 y155 a1 x8_3 x9_3 x10_3 (wrap64 ((rd x0_3 0) / 16)) (wrap64 ((wrap64 (Go.bits .and .u8 (rd x0_3 0) 15))+(wrap64 (rd y149 0)))) a2 x22_2)=some (r1,r2):=by rw [if_neg (show ¬ (false=true) by decide)] at H;exact H
                        clear H
                        have H:=H1;clear H1
                        have H':=Aside0.mk H;clear H
                        go_wp2
                        repeat (go_quiet (fail);try go_wp2)
                        go_meet
                        case rel=>exact ⟨_,(y155),((wrap64 ((wrap64 (Go.bits .and .u8 (rd x0_3 0) 15))+(wrap64 (rd y149 0))))),okV,H',⟨by have:=HJ3.out;have:=HK2.out;have:=HK3.out;have:=HJ22.out;first|omega|exact Nat.le_refl _⟩,⟨by (with_reducible repeat (first|apply Kd.V_alloc|apply Kd.V_drewN|apply Kd.V_drew));exact HO_0.out⟩,⟨rowV HO_8.out⟩,⟨belV HB.out⟩⟩
                    rw [if_neg c22] at H
                    exact absurd H (by simp)
                  rw [if_neg c21] at H
                  exact absurd H (by simp)
                rw [if_neg c19] at H
                have c19b0:((wrap64 (Go.bits .and .u8 (rd x0_3 0) 15)) == 15)=false:=beq_eq_false_iff_ne.mpr c19
                have c19b1:((wrap64 (Go.bits .and .u8 (rd x0_3 0) 15)) != 15)=true:=bne_iff_ne.mpr c19
                by_cases c27:(wrap64 (Go.bits .and .u8 (rd x0_3 0) 15))≥x10_3
                · rw [if_pos c27] at H
                  have c27b0:decide (x10_3≤(wrap64 (Go.bits .and .u8 (rd x0_3 0) 15)))=true:=decide_eq_true c27;clear c27
                  simp only [Option.some.injEq,Prod.mk.injEq] at H
                  obtain ⟨rfl,rfl⟩:=H
                  go_wp2
                  repeat (go_quiet (fail);try go_wp2)
                  go_ret2
                  exact ⟨_,by first|rfl|(simp [errW_none,errW_some] <;> rfl)|(simp [*,errW_none,errW_some] <;> rfl),by first|exact Kd.R_nil _ _ _ _ _|exact Kd.N_nil _ _ _ _ _|exact Kd.V_nil _ _ _ _ _|exact Kd.Q_nil _ _ _ _ _|exact Kd.S_nil _ _ _ _ _,by repeat (first|(with_reducible first|exact HB.out|apply below_alloc|apply pw_below_drewN|apply below_drew1)|exact HB.out)⟩
                rw [if_neg c27] at H
                have c27b0:decide (x10_3≤(wrap64 (Go.bits .and .u8 (rd x0_3 0) 15)))=false:=decide_eq_false c27;clear c27
                have H':=Aside0.mk H;clear H
                go_wp2
                repeat (go_quiet (fail);try go_wp2)
                go_meet
                case rel=>exact ⟨_,(y149),(wrap64 (Go.bits .and .u8 (rd x0_3 0) 15)),okV,H',⟨by have:=HJ3.out;have:=HK2.out;have:=HK3.out;first|omega|exact Nat.le_refl _⟩,⟨by (with_reducible repeat (first|apply Kd.V_alloc|apply Kd.V_drewN|apply Kd.V_drew));exact HO153.out⟩,⟨rowV HO_8.out⟩,⟨belV HB.out⟩⟩
               case rest =>
                clear HC15
                try clear c1;try clear p1 p1;try clear q1 q1;try clear hx1;try clear qi1;try clear c2;try clear p2 p2;try clear q2 q2;try clear c6;try clear p6 p6;try clear c8;try clear c9;try clear c9b0;try clear c10;try clear c10b0;try clear c11;try clear c11b0;try clear c11b1;try clear c11b2;try clear c13;try clear c13b0;try clear c13b1;try clear c14;try clear c14b0;try clear c14b1;try clear p14 p14;try clear q14 q14;try clear hx14;try clear qi14;try clear p15 p15;try clear q15 q15;try clear hx15;try clear qi15;try clear c17;try clear q17 q17;try clear c18;try clear c18b0;try clear c18b1;try clear c19;try clear c19b0;try clear c19b1;try clear c20;try clear c20b0;try clear c20b1;try clear c20b2;try clear c21;try clear c21b0;try clear c21b1;try clear c22;try clear c22b0;try clear c22b1;try clear c24;try clear q24 q24;try clear c25;try clear c25b0;try clear c25b1;try clear c26;try clear c27;try clear c27b0;try clear hx147_0;try clear hx148_0;try clear hx154_0;try clear p147;try clear p148;try clear p154;try clear q147;try clear q148;try clear q154
                obtain ⟨kq,x0_14,x12_14,rfl,HA,HJ14,HO_0,HO_8,HB⟩:=hcut
                cases kq with
                | zero=>exact absurd HA.out (by simp [bitmap_Pixels.j4])
                | succ kj14 =>
                 have H:=HA.out;clear HA
                 simp only [bitmap_Pixels.j4] at H
                 by_cases c28:(wrap64 ((rd x0_3 0) / 16))=x9_3
                 · rw [if_pos c28] at H
                   have c28b0:((wrap64 ((rd x0_3 0) / 16)) == x9_3)=true:=beq_iff_eq.mpr c28
                   have c28b1:((wrap64 ((rd x0_3 0) / 16)) != x9_3)=false:=bne_eq_false_iff_eq.mpr c28;clear c28
                   simp only [Option.some.injEq,Prod.mk.injEq] at H
                   obtain ⟨rfl,rfl⟩:=H
                   go_wp2
                   repeat (go_quiet (fail);try go_wp2)
                   go_ret2
                   exact ⟨_,by first|rfl|(simp [errW_none,errW_some] <;> rfl)|(simp [*,errW_none,errW_some] <;> rfl),by first|exact Kd.R_nil _ _ _ _ _|exact Kd.N_nil _ _ _ _ _|exact Kd.V_nil _ _ _ _ _|exact Kd.Q_nil _ _ _ _ _|exact Kd.S_nil _ _ _ _ _,by repeat (first|(with_reducible first|exact HB.out|apply below_alloc|apply pw_below_drewN|apply below_drew1)|exact HB.out)⟩
                 rw [if_neg c28] at H
                 have c28b0:((wrap64 ((rd x0_3 0) / 16)) == x9_3)=false:=beq_eq_false_iff_ne.mpr c28
                 have c28b1:((wrap64 ((rd x0_3 0) / 16)) != x9_3)=true:=bne_iff_ne.mpr c28
                 obtain ⟨y160,hy160⟩:∃ y_:List Int,y_=(([(wrap64 ((rd x0_3 0) / 16))]:List Int)):=⟨_,rfl⟩
                 replace H:((slices_Repeat_int_int.f y160 x12_14).bind fun t163=>(if x8_3.length+t163.length < 17592186044416 then (bitmap_Pixels.l1 kj14 x0_14 a1 (x8_3 ++ t163) (wrap64 ((rd x0_3 0) / 16)) (wrap64 (x10_3 - x12_14)) a2 x22_2) else (none)))=some (r1,r2):=by first|(rw [hy160];with_reducible exact H)|(have H2_:=(Option.bind_some _ _).symm.trans H;rw [hy160];with_reducible exact H2_)|(have H2_:=(Option.bind_some _ _).symm.trans H;with_reducible exact H2_)|with_reducible exact H|(rw [hy160];exact H)|exact H
                 have Ny160:=Aside0.mk hy160;clear hy160
                 replace H:=Option.bind_eq_some_iff.mp H
                 obtain ⟨t163,A290,H⟩:=H
                 replace H:(if x8_3.length+t163.length < 17592186044416 then (bitmap_Pixels.l1 kj14 x0_14 a1 (x8_3 ++ t163) (wrap64 ((rd x0_3 0) / 16)) (wrap64 (x10_3 - x12_14)) a2 x22_2) else (none))=some (r1,r2):=H
                 have A29:=Aside0.mk A290;clear A290
                 by_cases c30:x8_3.length+t163.length < 17592186044416
                 · rw [if_pos c30] at H
                   have LMc30:=Aside0.mk c30;clear c30
                   obtain ⟨y166,hy166⟩:∃ y_:List Int,y_=(x8_3 ++ t163):=⟨_,rfl⟩
                   replace H:(bitmap_Pixels.l1 kj14 x0_14 a1 y166 (wrap64 ((rd x0_3 0) / 16)) (wrap64 (x10_3 - x12_14)) a2 x22_2)=some (r1,r2):=by first|(rw [hy166];with_reducible exact H)|(have H2_:=(Option.bind_some _ _).symm.trans H;rw [hy166];with_reducible exact H2_)|(have H2_:=(Option.bind_some _ _).symm.trans H;with_reducible exact H2_)|with_reducible exact H|(rw [hy166];exact H)|exact H
                   have Ny166:=Aside0.mk hy166;clear hy166
                   have H':=Aside0.mk H;clear H
                   go_wp2_with (first|((with_reducible refine gate_dst (N:=76) rfl ?_);refine Kd.R_lit (Kd.int .i64) _ 3 ?hg (N:=76) ?hd (xs:=([(wrap64 ((rd x0_3 0) / 16))]:List Int)) (inner:=[.int .i64 (wrap64 ((rd x0_3 0) / 16))]) (ok:=fun _=>True) (okp:=fun _=>True) ?hr ?hp (fun _ hk=>hk) trivial (Below.refl _ _) (Nat.le_refl _) (by simp) ?_;(case hd=>rfl);(case hg=>rfl);(case hr=>first|(go_simp;done)|(go_simp;rfl));(case hp=>exact (Reps.one (show Kd.M (Kd.int .i64) _ _ _ (wrap64 ((rd x0_3 0) / 16)) [.int .i64 (wrap64 ((rd x0_3 0) / 16))] from rfl) (Reps.none _ _)));intro v161 w31 ho32 hb hg_ hnew_;clear hg_ hnew_;(first|rw [← Ny160.out] at ho32|(simp only [Int.reduceToNat] at ho32;rw [← Ny160.out] at ho32));have n0_:=Aside0.mk (Kd.V_elder' (by (with_reducible repeat (first|apply Kd.V_alloc|apply Kd.V_drewN|apply Kd.V_drew));exact HO_0.out) (Kd.R_base ho32) hb);have n1_:=Aside0.mk (Kd.R_elder' (rowV HO_8.out) (Kd.R_base ho32) hb);have n2_:=Aside0.mk (Kd.R_lower (Kd.R_new' (Kd.R_newM (M:=fun k_=>(w.heap.size≤k_)) ho32 (below_size (belV HB.out)) (fun k_ h_=>h_)) (Kd.R_lt (rowV HO_8.out))) (below_size (belV HB.out)));have n3_:=Aside0.mk (below_step (belV HB.out) hb);clear HO_0;clear HO_8;clear HB;have HO_0:=n0_;have HO_8:=n1_;have HO162:=n2_;have HB:=n3_;clear n0_ n1_ n2_ n3_;clear hb ho32;obtain ⟨Ao33,co33,eo33⟩:=Kd.R_slice HO162.out;subst eo33)|(go_at_call 53;(with_reducible refine (slices_Repeat_int_int.calls _ _ y160 x12_14 t163 _ ?side1 ?side2 A29.out).mono ?_);(case side1=>exact cV (Kd.R_reads' HO162.out).2.2);(case side2=>exact (Kd.R_reads' HO162.out).2.1);rintro e w34 ⟨v164,rfl,ho0,hb⟩;have n0_:=Aside0.mk (Kd.V_elder' (by (with_reducible repeat (first|apply Kd.V_alloc|apply Kd.V_drewN|apply Kd.V_drew));exact HO_0.out) (Kd.R_base ho0) hb);have n1_:=Aside0.mk (Kd.R_elder' (rowV HO_8.out) (Kd.R_base ho0) hb);have n2_:=Aside0.mk (Kd.R_elder' (rowV HO162.out) (Kd.R_base ho0) hb);have n3_:=Aside0.mk (Kd.R_lower (Kd.R_new' (Kd.R_new' (Kd.R_newM (M:=fun k_=>(w.heap.size≤k_)) ho0 (below_size (belV HB.out)) (fun k_ h_=>h_)) (Kd.R_lt (rowV HO_8.out))) (Kd.R_lt (rowV HO162.out))) (below_size (belV HB.out)));have n4_:=Aside0.mk (below_step (belV HB.out) hb);clear HO_0;clear HO_8;clear HO162;clear HB;have HO_0:=n0_;have HO_8:=n1_;have HO162:=n2_;have HO165:=n3_;have HB:=n4_;clear n0_ n1_ n2_ n3_ n4_;(try clear hb);(try clear hb2);(try clear hk);(try clear hi);(try clear ho0);obtain ⟨Ao36,co36,eo36⟩:=Kd.R_slice HO165.out;subst eo36)|((with_reducible refine gate_builtin (b:=.append) (xs:=#[.tmp 74,.tmp 78]) rfl ?_);at_builtin;refine Kd.R_append_rows (Kd.int .i64) (w0:=w) w.heap.size rfl (.tmp 74) (.tmp 78) 22 3 (.int .i64 0) 8 rfl Try.underlying22 info3 rfl (by decide) (by omega) u8 x8_3 t163 _ _ _ (fun k_=>(w.heap.size≤k_)∧some k_≠(.slice Ao33 y160.length co33:Value).ownBlock) (fun _=>False) rfl rfl ?aO ?aR (fun _ _ h=>h) (fun _ h=>h.elim) ?aF ?aB ?aS ?aL ?_;(case aR=>exact cV (Kd.R_reads' HO165.out).2.2);(case aB=>exact (belV HB.out));(case aF=>exact (fun k_ hk=>⟨(Nat.le_trans (below_size (belV HB.out)) hk),Kd.fresh' (Kd.R_lt (rowV HO162.out)) k_ hk⟩));(case aO=>exact (by (with_reducible repeat (first|apply Kd.R_alloc|apply Kd.R_drewN|apply Kd.R_drew));exact Kd.R_mono HO_8.out (fun _ hk=>⟨hk.1.1,hk.1.2⟩)));(case aS=>exact (below_size (belV HB.out)));(case aL=>have:=LMc30.out;omega);intro v167 w35 ho hb hg hat;rw [← Ny166.out] at ho;have n0_:=Aside0.mk (Kd.V_afterv (ok:=(fun k_=>(P0_ k_∨w.heap.size≤k_)∧some k_≠(.slice Ao33 y160.length co33:Value).ownBlock∧some k_≠(.slice Ao36 t163.length co36:Value).ownBlock)) (by (with_reducible repeat (first|apply Kd.V_alloc|apply Kd.V_drewN|apply Kd.V_drew));exact Kd.V_mono HO_0.out (fun _ hk=>⟨⟨hk.1.1.1,⟨hk.1.2,hk.2⟩⟩,hk.1.1.2⟩)) hg hat);have n1_:=Aside0.mk (Kd.R_after (ok:=(fun k_=>(w.heap.size≤k_)∧some k_≠(.slice Ao36 t163.length co36:Value).ownBlock)) (by (with_reducible repeat (first|apply Kd.R_alloc|apply Kd.R_drewN|apply Kd.R_drew));exact Kd.R_mono HO162.out (fun _ hk=>⟨⟨hk.1.1.1,hk.2⟩,hk.1.2⟩)) hg hat);have n2_:=Aside0.mk (hb);have n3_:=Aside0.mk (ho);clear HO_0;clear HO162;clear HB;clear HO_8;clear HO165;have HO_0:=n0_;have HO162:=n1_;have HB:=n2_;have HO168:=n3_;clear n0_ n1_ n2_ n3_;clear ho hb hg hat))
                   repeat (go_quiet (first|((with_reducible refine gate_dst (N:=76) rfl ?_);refine Kd.R_lit (Kd.int .i64) _ 3 ?hg (N:=76) ?hd (xs:=([(wrap64 ((rd x0_3 0) / 16))]:List Int)) (inner:=[.int .i64 (wrap64 ((rd x0_3 0) / 16))]) (ok:=fun _=>True) (okp:=fun _=>True) ?hr ?hp (fun _ hk=>hk) trivial (Below.refl _ _) (Nat.le_refl _) (by simp) ?_;(case hd=>rfl);(case hg=>rfl);(case hr=>first|(go_simp;done)|(go_simp;rfl));(case hp=>exact (Reps.one (show Kd.M (Kd.int .i64) _ _ _ (wrap64 ((rd x0_3 0) / 16)) [.int .i64 (wrap64 ((rd x0_3 0) / 16))] from rfl) (Reps.none _ _)));intro v161 w31 ho32 hb hg_ hnew_;clear hg_ hnew_;(first|rw [← Ny160.out] at ho32|(simp only [Int.reduceToNat] at ho32;rw [← Ny160.out] at ho32));have n0_:=Aside0.mk (Kd.V_elder' (by (with_reducible repeat (first|apply Kd.V_alloc|apply Kd.V_drewN|apply Kd.V_drew));exact HO_0.out) (Kd.R_base ho32) hb);have n1_:=Aside0.mk (Kd.R_elder' (rowV HO_8.out) (Kd.R_base ho32) hb);have n2_:=Aside0.mk (Kd.R_lower (Kd.R_new' (Kd.R_newM (M:=fun k_=>(w.heap.size≤k_)) ho32 (below_size (belV HB.out)) (fun k_ h_=>h_)) (Kd.R_lt (rowV HO_8.out))) (below_size (belV HB.out)));have n3_:=Aside0.mk (below_step (belV HB.out) hb);clear HO_0;clear HO_8;clear HB;have HO_0:=n0_;have HO_8:=n1_;have HO162:=n2_;have HB:=n3_;clear n0_ n1_ n2_ n3_;clear hb ho32;obtain ⟨Ao33,co33,eo33⟩:=Kd.R_slice HO162.out;subst eo33)|(go_at_call 53;(with_reducible refine (slices_Repeat_int_int.calls _ _ y160 x12_14 t163 _ ?side1 ?side2 A29.out).mono ?_);(case side1=>exact cV (Kd.R_reads' HO162.out).2.2);(case side2=>exact (Kd.R_reads' HO162.out).2.1);rintro e w34 ⟨v164,rfl,ho0,hb⟩;have n0_:=Aside0.mk (Kd.V_elder' (by (with_reducible repeat (first|apply Kd.V_alloc|apply Kd.V_drewN|apply Kd.V_drew));exact HO_0.out) (Kd.R_base ho0) hb);have n1_:=Aside0.mk (Kd.R_elder' (rowV HO_8.out) (Kd.R_base ho0) hb);have n2_:=Aside0.mk (Kd.R_elder' (rowV HO162.out) (Kd.R_base ho0) hb);have n3_:=Aside0.mk (Kd.R_lower (Kd.R_new' (Kd.R_new' (Kd.R_newM (M:=fun k_=>(w.heap.size≤k_)) ho0 (below_size (belV HB.out)) (fun k_ h_=>h_)) (Kd.R_lt (rowV HO_8.out))) (Kd.R_lt (rowV HO162.out))) (below_size (belV HB.out)));have n4_:=Aside0.mk (below_step (belV HB.out) hb);clear HO_0;clear HO_8;clear HO162;clear HB;have HO_0:=n0_;have HO_8:=n1_;have HO162:=n2_;have HO165:=n3_;have HB:=n4_;clear n0_ n1_ n2_ n3_ n4_;(try clear hb);(try clear hb2);(try clear hk);(try clear hi);(try clear ho0);obtain ⟨Ao36,co36,eo36⟩:=Kd.R_slice HO165.out;subst eo36)|((with_reducible refine gate_builtin (b:=.append) (xs:=#[.tmp 74,.tmp 78]) rfl ?_);at_builtin;refine Kd.R_append_rows (Kd.int .i64) (w0:=w) w.heap.size rfl (.tmp 74) (.tmp 78) 22 3 (.int .i64 0) 8 rfl Try.underlying22 info3 rfl (by decide) (by omega) u8 x8_3 t163 _ _ _ (fun k_=>(w.heap.size≤k_)∧some k_≠(.slice Ao33 y160.length co33:Value).ownBlock) (fun _=>False) rfl rfl ?aO ?aR (fun _ _ h=>h) (fun _ h=>h.elim) ?aF ?aB ?aS ?aL ?_;(case aR=>exact cV (Kd.R_reads' HO165.out).2.2);(case aB=>exact (belV HB.out));(case aF=>exact (fun k_ hk=>⟨(Nat.le_trans (below_size (belV HB.out)) hk),Kd.fresh' (Kd.R_lt (rowV HO162.out)) k_ hk⟩));(case aO=>exact (by (with_reducible repeat (first|apply Kd.R_alloc|apply Kd.R_drewN|apply Kd.R_drew));exact Kd.R_mono HO_8.out (fun _ hk=>⟨hk.1.1,hk.1.2⟩)));(case aS=>exact (below_size (belV HB.out)));(case aL=>have:=LMc30.out;omega);intro v167 w35 ho hb hg hat;rw [← Ny166.out] at ho;have n0_:=Aside0.mk (Kd.V_afterv (ok:=(fun k_=>(P0_ k_∨w.heap.size≤k_)∧some k_≠(.slice Ao33 y160.length co33:Value).ownBlock∧some k_≠(.slice Ao36 t163.length co36:Value).ownBlock)) (by (with_reducible repeat (first|apply Kd.V_alloc|apply Kd.V_drewN|apply Kd.V_drew));exact Kd.V_mono HO_0.out (fun _ hk=>⟨⟨hk.1.1.1,⟨hk.1.2,hk.2⟩⟩,hk.1.1.2⟩)) hg hat);have n1_:=Aside0.mk (Kd.R_after (ok:=(fun k_=>(w.heap.size≤k_)∧some k_≠(.slice Ao36 t163.length co36:Value).ownBlock)) (by (with_reducible repeat (first|apply Kd.R_alloc|apply Kd.R_drewN|apply Kd.R_drew));exact Kd.R_mono HO162.out (fun _ hk=>⟨⟨hk.1.1.1,hk.2⟩,hk.1.2⟩)) hg hat);have n2_:=Aside0.mk (hb);have n3_:=Aside0.mk (ho);clear HO_0;clear HO162;clear HB;clear HO_8;clear HO165;have HO_0:=n0_;have HO162:=n1_;have HB:=n2_;have HO168:=n3_;clear n0_ n1_ n2_ n3_;clear ho hb hg hat));try go_wp2_with (first|((with_reducible refine gate_dst (N:=76) rfl ?_);refine Kd.R_lit (Kd.int .i64) _ 3 ?hg (N:=76) ?hd (xs:=([(wrap64 ((rd x0_3 0) / 16))]:List Int)) (inner:=[.int .i64 (wrap64 ((rd x0_3 0) / 16))]) (ok:=fun _=>True) (okp:=fun _=>True) ?hr ?hp (fun _ hk=>hk) trivial (Below.refl _ _) (Nat.le_refl _) (by simp) ?_;(case hd=>rfl);(case hg=>rfl);(case hr=>first|(go_simp;done)|(go_simp;rfl));(case hp=>exact (Reps.one (show Kd.M (Kd.int .i64) _ _ _ (wrap64 ((rd x0_3 0) / 16)) [.int .i64 (wrap64 ((rd x0_3 0) / 16))] from rfl) (Reps.none _ _)));intro v161 w31 ho32 hb hg_ hnew_;clear hg_ hnew_;(first|rw [← Ny160.out] at ho32|(simp only [Int.reduceToNat] at ho32;rw [← Ny160.out] at ho32));have n0_:=Aside0.mk (Kd.V_elder' (by (with_reducible repeat (first|apply Kd.V_alloc|apply Kd.V_drewN|apply Kd.V_drew));exact HO_0.out) (Kd.R_base ho32) hb);have n1_:=Aside0.mk (Kd.R_elder' (rowV HO_8.out) (Kd.R_base ho32) hb);have n2_:=Aside0.mk (Kd.R_lower (Kd.R_new' (Kd.R_newM (M:=fun k_=>(w.heap.size≤k_)) ho32 (below_size (belV HB.out)) (fun k_ h_=>h_)) (Kd.R_lt (rowV HO_8.out))) (below_size (belV HB.out)));have n3_:=Aside0.mk (below_step (belV HB.out) hb);clear HO_0;clear HO_8;clear HB;have HO_0:=n0_;have HO_8:=n1_;have HO162:=n2_;have HB:=n3_;clear n0_ n1_ n2_ n3_;clear hb ho32;obtain ⟨Ao33,co33,eo33⟩:=Kd.R_slice HO162.out;subst eo33)|(go_at_call 53;(with_reducible refine (slices_Repeat_int_int.calls _ _ y160 x12_14 t163 _ ?side1 ?side2 A29.out).mono ?_);(case side1=>exact cV (Kd.R_reads' HO162.out).2.2);(case side2=>exact (Kd.R_reads' HO162.out).2.1);rintro e w34 ⟨v164,rfl,ho0,hb⟩;have n0_:=Aside0.mk (Kd.V_elder' (by (with_reducible repeat (first|apply Kd.V_alloc|apply Kd.V_drewN|apply Kd.V_drew));exact HO_0.out) (Kd.R_base ho0) hb);have n1_:=Aside0.mk (Kd.R_elder' (rowV HO_8.out) (Kd.R_base ho0) hb);have n2_:=Aside0.mk (Kd.R_elder' (rowV HO162.out) (Kd.R_base ho0) hb);have n3_:=Aside0.mk (Kd.R_lower (Kd.R_new' (Kd.R_new' (Kd.R_newM (M:=fun k_=>(w.heap.size≤k_)) ho0 (below_size (belV HB.out)) (fun k_ h_=>h_)) (Kd.R_lt (rowV HO_8.out))) (Kd.R_lt (rowV HO162.out))) (below_size (belV HB.out)));have n4_:=Aside0.mk (below_step (belV HB.out) hb);clear HO_0;clear HO_8;clear HO162;clear HB;have HO_0:=n0_;have HO_8:=n1_;have HO162:=n2_;have HO165:=n3_;have HB:=n4_;clear n0_ n1_ n2_ n3_ n4_;(try clear hb);(try clear hb2);(try clear hk);(try clear hi);(try clear ho0);obtain ⟨Ao36,co36,eo36⟩:=Kd.R_slice HO165.out;subst eo36)|((with_reducible refine gate_builtin (b:=.append) (xs:=#[.tmp 74,.tmp 78]) rfl ?_);at_builtin;refine Kd.R_append_rows (Kd.int .i64) (w0:=w) w.heap.size rfl (.tmp 74) (.tmp 78) 22 3 (.int .i64 0) 8 rfl Try.underlying22 info3 rfl (by decide) (by omega) u8 x8_3 t163 _ _ _ (fun k_=>(w.heap.size≤k_)∧some k_≠(.slice Ao33 y160.length co33:Value).ownBlock) (fun _=>False) rfl rfl ?aO ?aR (fun _ _ h=>h) (fun _ h=>h.elim) ?aF ?aB ?aS ?aL ?_;(case aR=>exact cV (Kd.R_reads' HO165.out).2.2);(case aB=>exact (belV HB.out));(case aF=>exact (fun k_ hk=>⟨(Nat.le_trans (below_size (belV HB.out)) hk),Kd.fresh' (Kd.R_lt (rowV HO162.out)) k_ hk⟩));(case aO=>exact (by (with_reducible repeat (first|apply Kd.R_alloc|apply Kd.R_drewN|apply Kd.R_drew));exact Kd.R_mono HO_8.out (fun _ hk=>⟨hk.1.1,hk.1.2⟩)));(case aS=>exact (below_size (belV HB.out)));(case aL=>have:=LMc30.out;omega);intro v167 w35 ho hb hg hat;rw [← Ny166.out] at ho;have n0_:=Aside0.mk (Kd.V_afterv (ok:=(fun k_=>(P0_ k_∨w.heap.size≤k_)∧some k_≠(.slice Ao33 y160.length co33:Value).ownBlock∧some k_≠(.slice Ao36 t163.length co36:Value).ownBlock)) (by (with_reducible repeat (first|apply Kd.V_alloc|apply Kd.V_drewN|apply Kd.V_drew));exact Kd.V_mono HO_0.out (fun _ hk=>⟨⟨hk.1.1.1,⟨hk.1.2,hk.2⟩⟩,hk.1.1.2⟩)) hg hat);have n1_:=Aside0.mk (Kd.R_after (ok:=(fun k_=>(w.heap.size≤k_)∧some k_≠(.slice Ao36 t163.length co36:Value).ownBlock)) (by (with_reducible repeat (first|apply Kd.R_alloc|apply Kd.R_drewN|apply Kd.R_drew));exact Kd.R_mono HO162.out (fun _ hk=>⟨⟨hk.1.1.1,hk.2⟩,hk.1.2⟩)) hg hat);have n2_:=Aside0.mk (hb);have n3_:=Aside0.mk (ho);clear HO_0;clear HO162;clear HB;clear HO_8;clear HO165;have HO_0:=n0_;have HO162:=n1_;have HB:=n2_;have HO168:=n3_;clear n0_ n1_ n2_ n3_;clear ho hb hg hat)))
                   go_roundg kj14
                   case measure=>have:=HJ3.out;have:=HK2.out;have:=HK3.out;have:=HJ14.out;omega
                   case rel=>exact ⟨(x0_14),(y166),((wrap64 ((rd x0_3 0) / 16))),(wrap64 (x10_3 - x12_14)),okV,okV,H',⟨by have:=HJ3.out;have:=HK2.out;have:=HK3.out;have:=HJ14.out;omega⟩,⟨by (with_reducible repeat (first|apply Kd.V_alloc|apply Kd.V_drewN|apply Kd.V_drew));exact Kd.V_mono HO_0.out (fun _ hk=>⟨hk.1.1,hk.2⟩)⟩,⟨by (with_reducible repeat (first|apply Kd.R_alloc|apply Kd.R_drewN|apply Kd.R_drew));exact Kd.R_mono HO168.out (fun _ hk=>hk.1)⟩,⟨belV HB.out⟩⟩
                 rw [if_neg c30] at H
                 exact absurd H (by simp)
             rw [if_neg c14] at H
             exact absurd H (by simp)
           rw [if_neg c13] at H
           exact absurd H (by simp)
         rw [if_neg c10] at H
         have c10b0:decide (0 < x10_3)=false:=decide_eq_false c10;clear c10
         have H':=Aside0.mk H;clear H
         go_wp2
         repeat (go_quiet (fail);try go_wp2)
         go_roundg k3
         case measure=>have:=HJ3.out;have:=HK2.out;have:=HK3.out;omega
         case rel=>exact ⟨(x0_3),(x8_3),(wrap64 (x22_2+1)),okV,H',⟨by have:=HJ3.out;have:=HK2.out;have:=HK3.out;omega⟩,⟨by (with_reducible repeat (first|apply Kd.V_alloc|apply Kd.V_drewN|apply Kd.V_drew));exact HO_0.out⟩,⟨rowV HO_8.out⟩,⟨belV HB.out⟩⟩
     rw [if_neg c9] at H
     have c9b0:decide (x22_2 < a2)=false:=decide_eq_false c9;clear c9
     by_cases c37:(x0_2.length:Int) > 0
     · rw [if_pos c37] at H
       have c37b0:decide (0 < (x0_2.length:Int))=true:=decide_eq_true c37
       have c37b1:decide (0 < x0_2.length)=true:=decide_eq_true (by omega);clear c37
       simp only [Option.some.injEq,Prod.mk.injEq] at H
       obtain ⟨rfl,rfl⟩:=H
       obtain ⟨Ao38,co38,eo38⟩:=Kd.V_slice HO_0.out;subst eo38
       go_wp2
       repeat (go_quiet (fail);try go_wp2)
       go_ret2
       exact ⟨_,by first|rfl|(simp [errW_none,errW_some] <;> rfl)|(simp [*,errW_none,errW_some] <;> rfl),by first|exact Kd.R_nil _ _ _ _ _|exact Kd.N_nil _ _ _ _ _|exact Kd.V_nil _ _ _ _ _|exact Kd.Q_nil _ _ _ _ _|exact Kd.S_nil _ _ _ _ _,by repeat (first|(with_reducible first|exact HB.out|apply below_alloc|apply pw_below_drewN|apply below_drew1)|exact HB.out)⟩
     rw [if_neg c37] at H
     have c37b0:decide (0 < (x0_2.length:Int))=false:=decide_eq_false c37
     have c37b1:decide (0 < x0_2.length)=false:=decide_eq_false (by omega);clear c37
     simp only [Option.some.injEq,Prod.mk.injEq] at H
     obtain ⟨rfl,rfl⟩:=H
     obtain ⟨Ao39,co39,eo39⟩:=Kd.V_slice HO_0.out;subst eo39
     go_wp2
     repeat (go_quiet (fail);try go_wp2)
     go_ret2
     exact ⟨_,by first|rfl|(simp [errW_none,errW_some] <;> rfl)|(simp [*,errW_none,errW_some] <;> rfl),by (with_reducible repeat (first|apply Kd.R_alloc|apply Kd.R_drewN|apply Kd.R_drew));exact HO_8.out,by repeat (first|(with_reducible first|exact HB.out|apply below_alloc|apply pw_below_drewN|apply below_drew1)|exact HB.out)⟩

/-! ### dioramalaw19_awake: function 17 -/
def dioramalaw19_awake.j0 : Nat → List Int → Bool → Option (Bool)
 | 0,_,_=>none
 | k+1,x1,x17=>if x17=true then (some false) else ((bitmap_Pixels.f k x1 5 1).bind fun bt180=>(if bt180.2=0 then ((dioramaref00_EqInts.f k bt180.1 (([3,3,3,5,5]:List Int))).bind fun t187=>(some t187)) else (some false)))
def dioramalaw19_awake.f (k : Nat)  : Option (Bool) := (bitmap_Runs.f k (([3, 3, 3, 5, 5] : List Int)) 5).bind fun bt172 => (if bt172.2 = 0 then ((dioramaref00_EqBytes.f k bt172.1 (([51, 80] : List Int))).bind fun t179 => (dioramalaw19_awake.j0 k bt172.1 (!t179))) else (dioramalaw19_awake.j0 k bt172.1 true))
theorem dioramalaw19_awake.mono_l:∀ k,(∀ y0 y1,LeO (dioramalaw19_awake.j0 k y0 y1) (dioramalaw19_awake.j0 (k+1) y0 y1))
 | 0=>fun _ _ r h=>by simp [dioramalaw19_awake.j0] at h
 | k+1=>by
  have ih0:=dioramalaw19_awake.mono_l k
  · intro y0 y1
    unfold dioramalaw19_awake.j0
    repeat' first
    | (with_reducible exact ih0 _ _)
    | (with_reducible exact bitmap_Pixels.mono _ _ _ _)
    | (with_reducible exact bitmap_Runs.mono _ _ _)
    | (with_reducible exact dioramaref00_EqBytes.mono _ _ _)
    | (with_reducible exact dioramaref00_EqInts.mono _ _ _)
    | (with_reducible exact LeO.refl _)
    | (with_reducible exact LeO.none _)
    | (with_reducible refine LeO.ite ?_ ?_)
    | (with_reducible refine LeO.bind ?_ (fun _=>?_))
    | exact LeO.none _
    | refine LeO.ite ?_ ?_
    | refine LeO.bind ?_ (fun _=>?_)
theorem dioramalaw19_awake.mono:∀ k,LeO (dioramalaw19_awake.f k ) (dioramalaw19_awake.f (k+1) ):=by
 intro  k
 have ih0:=dioramalaw19_awake.mono_l k
 unfold dioramalaw19_awake.f
 repeat' first
  | (with_reducible exact ih0 _ _)
  | (with_reducible exact bitmap_Pixels.mono _ _ _ _)
  | (with_reducible exact bitmap_Runs.mono _ _ _)
  | (with_reducible exact dioramaref00_EqBytes.mono _ _ _)
  | (with_reducible exact dioramaref00_EqInts.mono _ _ _)
  | (with_reducible exact LeO.refl _)
  | (with_reducible exact LeO.none _)
  | (with_reducible refine LeO.ite ?_ ?_)
  | (with_reducible refine LeO.bind ?_ (fun _=>?_))
  | exact LeO.none _
  | refine LeO.ite ?_ ?_
  | refine LeO.bind ?_ (fun _=>?_)
set_option maxHeartbeats 8000000 in
set_option maxRecDepth 100000 in
theorem dioramalaw19_awake.calls (k:Nat)  (r:Bool) (w:World) (h:dioramalaw19_awake.f k =some r) :
 Calls Try.prog 17 #[] w fun e w'=>e=.returned (.bool r)∧Below w.heap.size w w':=by
 have HB:=Aside0.mk (Below.refl w.heap.size w)
 have H:((bitmap_Runs.f k (([3,3,3,5,5]:List Int)) 5).bind fun bt172=>(if bt172.2=0 then ((dioramaref00_EqBytes.f k bt172.1 (([51,80]:List Int))).bind fun t179=>(dioramalaw19_awake.j0 k bt172.1 (!t179))) else (dioramalaw19_awake.j0 k bt172.1 true)))=some r:=h
 clear h
 obtain ⟨y169,hy169⟩:∃ y_:List Int,y_=(([3,3,3,5,5]:List Int)):=⟨_,rfl⟩
 replace H:((bitmap_Runs.f k y169 5).bind fun bt172=>(if bt172.2=0 then ((dioramaref00_EqBytes.f k bt172.1 (([51,80]:List Int))).bind fun t179=>(dioramalaw19_awake.j0 k bt172.1 (!t179))) else (dioramalaw19_awake.j0 k bt172.1 true)))=some r:=by first|(rw [hy169];with_reducible exact H)|(have H2_:=(Option.bind_some _ _).symm.trans H;rw [hy169];with_reducible exact H2_)|(have H2_:=(Option.bind_some _ _).symm.trans H;with_reducible exact H2_)|with_reducible exact H|(rw [hy169];exact H)|exact H
 have Ny169:=Aside0.mk hy169;clear hy169
 replace H:=Option.bind_eq_some_iff.mp H
 obtain ⟨⟨t172,t175⟩,A10,H⟩:=H
 replace H:(if t175=0 then ((dioramaref00_EqBytes.f k t172 (([51,80]:List Int))).bind fun t179=>(dioramalaw19_awake.j0 k t172 (!t179))) else (dioramalaw19_awake.j0 k t172 true))=some r:=H
 have A1:=Aside0.mk A10;clear A10
 have HC2:=Aside0.mk H;clear H
 go_enter Try.func17,Try.ntmps17
 go_upto_region 2 with (first|((with_reducible refine gate_dst (N:=6) rfl ?_);(try (refine gate_guard (by rfl) ?_;dsimp only));refine Kd.R_lit (Kd.int .i64) _ 3 ?hg (N:=6) ?hd (xs:=([3,3,3,5,5]:List Int)) (inner:=[.int .i64 3,.int .i64 3,.int .i64 3,.int .i64 5,.int .i64 5]) (ok:=fun _=>True) (okp:=fun _=>True) ?hr ?hp (fun _ hk=>hk) trivial (Below.refl _ _) (Nat.le_refl _) (by simp) ?_;(case hd=>rfl);(case hg=>rfl);(case hr=>first|(go_simp;done)|(go_simp;rfl));(case hp=>exact (Reps.one (show Kd.M (Kd.int .i64) _ _ _ 3 [.int .i64 3] from rfl) (Reps.one (show Kd.M (Kd.int .i64) _ _ _ 3 [.int .i64 3] from rfl) (Reps.one (show Kd.M (Kd.int .i64) _ _ _ 3 [.int .i64 3] from rfl) (Reps.one (show Kd.M (Kd.int .i64) _ _ _ 5 [.int .i64 5] from rfl) (Reps.one (show Kd.M (Kd.int .i64) _ _ _ 5 [.int .i64 5] from rfl) (Reps.none _ _)))))));intro v170 w3 ho4 hb hg_ hnew_;clear hg_ hnew_;(first|rw [← Ny169.out] at ho4|(simp only [Int.reduceToNat] at ho4;rw [← Ny169.out] at ho4));have n0_:=Aside0.mk (Kd.R_lower ho4 (below_size (belV HB.out)));have n1_:=Aside0.mk (below_step (belV HB.out) hb);clear HB;have HO171:=n0_;have HB:=n1_;clear n0_ n1_;clear hb ho4;obtain ⟨Ao5,co5,eo5⟩:=Kd.R_slice HO171.out;subst eo5)|((with_reducible refine gate_callee (f:=11) rfl ?_);refine goesL_ (some 7) rfl rfl Try.func11 (by kernel_rfl) rfl #[.slice Ao5 y169.length co5,.int .i64 5] rfl (by (try simp only [List.map_toArray,List.map_cons,List.map_nil]);first|done|rfl|(simp only [List.length_drop,List.length_take];rfl)) ?_;(with_reducible refine (bitmap_Runs.calls k (fun k_=>some k_=(.slice Ao5 y169.length co5:Value).ownBlock) _ _ y169 5 t172 t175 _ ?side1 A1.out).mono ?_);(case side1=>exact Kd.R_V (Kd.R_tight rfl (HO171.out)));rintro e w6 ⟨v173,rfl,ho0,hb⟩;refine ⟨_,rfl,?_⟩;have n0_:=Aside0.mk (Kd.R_below (rowV HO171.out) hb);have n1_:=Aside0.mk (Kd.R_lower (Kd.R_mono (ok':=fun k_=>True) ho0 (fun _ hk_=>trivial)) (below_size (belV HB.out)));have n2_:=Aside0.mk (below_step (belV HB.out) hb);clear HO171;clear HB;have HO171:=n0_;have HO174:=n1_;have HB:=n2_;clear n0_ n1_ n2_;(try clear hb);(try clear hb2);(try clear hk);(try clear hi);(try clear ho0)))
 (try simp only [Act.put,List.setIfInBounds_toArray,List.set_cons_zero,List.set_cons_succ])
 go_cut [17] (fun v17 wc=>∃ (kq:Nat) (x17_1:Bool),v17=.bool x17_1∧Aside0 (dioramalaw19_awake.j0 kq t172 x17_1=some r)∧Aside0 (kq≤k)∧Aside0 (Kd.R (Kd.int .u8) 5 wc w.heap.size (fun _=>True) v173 t172)∧Aside0 (Below w.heap.size w wc))
 case first =>
  have H:=HC2.out;clear HC2
  by_cases c7:t175=0
  · rw [if_pos c7] at H
    have c7b0:(t175 == 0)=true:=beq_iff_eq.mpr c7
    have c7b1:(t175 != 0)=false:=bne_eq_false_iff_eq.mpr c7;clear c7
    (first|rw [c7b0]|(simp only [i64_w,i32_w];rw [c7b0])|rw [c7b1]|skip)
    obtain ⟨y176,hy176⟩:∃ y_:List Int,y_=(([51,80]:List Int)):=⟨_,rfl⟩
    replace H:((dioramaref00_EqBytes.f k t172 y176).bind fun t179=>(dioramalaw19_awake.j0 k t172 (!t179)))=some r:=by first|(rw [hy176];with_reducible exact H)|(have H2_:=(Option.bind_some _ _).symm.trans H;rw [hy176];with_reducible exact H2_)|(have H2_:=(Option.bind_some _ _).symm.trans H;with_reducible exact H2_)|with_reducible exact H|(rw [hy176];exact H)|exact H
    have Ny176:=Aside0.mk hy176;clear hy176
    replace H:=Option.bind_eq_some_iff.mp H
    obtain ⟨t179,A80,H⟩:=H
    replace H:(dioramalaw19_awake.j0 k t172 (!t179))=some r:=H
    have A8:=Aside0.mk A80;clear A80
    have H':=Aside0.mk H;clear H
    go_wp2_with (first|((with_reducible refine gate_dst (N:=14) rfl ?_);(try (refine gate_guard (by rfl) ?_;dsimp only));refine Kd.R_lit (Kd.int .u8) _ 5 ?hg (N:=14) ?hd (xs:=([51,80]:List Int)) (inner:=[.int .u8 51,.int .u8 80]) (ok:=fun _=>True) (okp:=fun _=>True) ?hr ?hp (fun _ hk=>hk) trivial (Below.refl _ _) (Nat.le_refl _) (by simp) ?_;(case hd=>rfl);(case hg=>rfl);(case hr=>first|(go_simp;done)|(go_simp;rfl));(case hp=>exact (Reps.one (show Kd.M (Kd.int .u8) _ _ _ 51 [.int .u8 51] from rfl) (Reps.one (show Kd.M (Kd.int .u8) _ _ _ 80 [.int .u8 80] from rfl) (Reps.none _ _))));intro v177 w9 ho10 hb hg_ hnew_;clear hg_ hnew_;(first|rw [← Ny176.out] at ho10|(simp only [Int.reduceToNat] at ho10;rw [← Ny176.out] at ho10));have n0_:=Aside0.mk (Kd.R_below (rowV HO171.out) hb);have n1_:=Aside0.mk (Kd.R_elder' (rowV HO174.out) (Kd.R_base ho10) hb);have n2_:=Aside0.mk (Kd.R_lower (Kd.R_new' ho10 (Kd.R_lt (rowV HO174.out))) (below_size (belV HB.out)));have n3_:=Aside0.mk (below_step (belV HB.out) hb);clear HO171;clear HO174;clear HB;have HO171:=n0_;have HO174:=n1_;have HO178:=n2_;have HB:=n3_;clear n0_ n1_ n2_ n3_;clear hb ho10;obtain ⟨Ao11,co11,eo11⟩:=Kd.R_slice HO174.out;subst eo11;obtain ⟨Ao12,co12,eo12⟩:=Kd.R_slice HO178.out;subst eo12)|(go_at_call 13;(with_reducible refine (dioramaref00_EqBytes.calls k _ _ t172 _ _ y176 t179 _ ?side1 ?side2 ?side3 ?side4 A8.out).mono ?_);(case side1=>exact cV (Kd.R_reads' HO174.out).2.2);(case side2=>exact (Kd.R_reads' HO174.out).2.1);(case side3=>exact cV (Kd.R_reads' HO178.out).2.2);(case side4=>exact (Kd.R_reads' HO178.out).2.1);rintro e w' ⟨rfl,⟨nd,rfl⟩⟩))
    go_meet
    case rel=>exact ⟨_,(!t179),okV,H',⟨by first|omega|exact Nat.le_refl _⟩,⟨by (with_reducible repeat (first|apply Kd.R_alloc|apply Kd.R_drewN|apply Kd.R_drew));exact Kd.R_mono HO174.out (fun _ hk=>trivial)⟩,⟨belV HB.out⟩⟩
  rw [if_neg c7] at H
  have c7b0:(t175 == 0)=false:=beq_eq_false_iff_ne.mpr c7
  have c7b1:(t175 != 0)=true:=bne_iff_ne.mpr c7
  (first|rw [c7b0]|(simp only [i64_w,i32_w];rw [c7b0])|rw [c7b1]|skip)
  have H':=Aside0.mk H;clear H
  go_wp2
  go_meet
  case rel=>exact ⟨_,(true),okV,H',⟨by first|omega|exact Nat.le_refl _⟩,⟨rowV HO174.out⟩,⟨belV HB.out⟩⟩
 case rest =>
  clear HC2
  try clear c1;try clear p2;try clear c7;try clear c7b0;try clear c7b1;try clear c11
  obtain ⟨kq,x17_1,rfl,HA,HJ1,HO_1,HB⟩:=hcut
  cases kq with
  | zero=>exact absurd HA.out (by simp [dioramalaw19_awake.j0])
  | succ kj1 =>
   have H:=HA.out;clear HA
   simp only [dioramalaw19_awake.j0] at H
   by_cases c13:x17_1=true
   · subst c13
     have H1:(some false)=some r:=by rw [if_pos rfl] at H;exact H
     clear H
     have H:=H1;clear H1
     obtain rfl:=Option.some.inj H
     go_wp2
     go_ret
     exact ⟨by first|rfl|(simp [errW_none,errW_some] <;> rfl)|(simp [*,errW_none,errW_some] <;> rfl),by repeat (first|(with_reducible first|exact HB.out|apply below_alloc|apply pw_below_drewN|apply below_drew1)|exact HB.out)⟩
   replace c13:=Bool.eq_false_iff.mpr c13;subst c13
   have H1:((bitmap_Pixels.f kj1 t172 5 1).bind fun bt180=>(if bt180.2=0 then ((dioramaref00_EqInts.f kj1 bt180.1 (([3,3,3,5,5]:List Int))).bind fun t187=>(some t187)) else (some false)))=some r:=by rw [if_neg (show ¬ (false=true) by decide)] at H;exact H
   clear H
   have H:=H1;clear H1
   replace H:=Option.bind_eq_some_iff.mp H
   obtain ⟨⟨t180,t183⟩,A140,H⟩:=H
   replace H:(if t183=0 then ((dioramaref00_EqInts.f kj1 t180 (([3,3,3,5,5]:List Int))).bind fun t187=>(some t187)) else (some false))=some r:=H
   have A14:=Aside0.mk A140;clear A140
   by_cases c15:t183=0
   · rw [if_pos c15] at H
     have c15b0:(t183 == 0)=true:=beq_iff_eq.mpr c15
     have c15b1:(t183 != 0)=false:=bne_eq_false_iff_eq.mpr c15;clear c15
     obtain ⟨y184,hy184⟩:∃ y_:List Int,y_=(([3,3,3,5,5]:List Int)):=⟨_,rfl⟩
     replace H:((dioramaref00_EqInts.f kj1 t180 y184).bind fun t187=>(some t187))=some r:=by first|(rw [hy184];with_reducible exact H)|(have H2_:=(Option.bind_some _ _).symm.trans H;rw [hy184];with_reducible exact H2_)|(have H2_:=(Option.bind_some _ _).symm.trans H;with_reducible exact H2_)|with_reducible exact H|(rw [hy184];exact H)|exact H
     have Ny184:=Aside0.mk hy184;clear hy184
     replace H:=Option.bind_eq_some_iff.mp H
     obtain ⟨t187,A160,H⟩:=H
     replace H:(some t187)=some r:=H
     have A16:=Aside0.mk A160;clear A160
     obtain rfl:=Option.some.inj H
     obtain ⟨Ao17,co17,eo17⟩:=Kd.R_slice HO_1.out;subst eo17
     go_wp2_with (first|((with_reducible refine gate_callee (f:=14) rfl ?_);refine goesL_ (some 20) rfl rfl Try.func14 (by kernel_rfl) rfl #[.slice Ao17 t172.length co17,.int .i64 5,.int .i64 1] rfl (by (try simp only [List.map_toArray,List.map_cons,List.map_nil]);first|done|rfl|(simp only [List.length_drop,List.length_take];rfl)) ?_;(with_reducible refine (bitmap_Pixels.calls kj1 (fun k_=>some k_=(.slice Ao17 t172.length co17:Value).ownBlock) _ _ t172 5 1 t180 t183 _ ?side1 A14.out).mono ?_);(case side1=>exact Kd.R_V (Kd.R_tight rfl (HO_1.out)));rintro e w18 ⟨v181,rfl,ho0,hb⟩;refine ⟨_,rfl,?_⟩;have n0_:=Aside0.mk (Kd.R_below (rowV HO_1.out) hb);have n1_:=Aside0.mk (Kd.R_lower (Kd.R_mono (ok':=fun k_=>True) ho0 (fun _ hk_=>trivial)) (below_size (belV HB.out)));have n2_:=Aside0.mk (below_step (belV HB.out) hb);clear HO_1;clear HB;have HO_1:=n0_;have HO182:=n1_;have HB:=n2_;clear n0_ n1_ n2_;(try clear hb);(try clear hb2);(try clear hk);(try clear hi);(try clear ho0))|((with_reducible refine gate_dst (N:=27) rfl ?_);(try (refine gate_guard (by rfl) ?_;dsimp only));refine Kd.R_lit (Kd.int .i64) _ 3 ?hg (N:=27) ?hd (xs:=([3,3,3,5,5]:List Int)) (inner:=[.int .i64 3,.int .i64 3,.int .i64 3,.int .i64 5,.int .i64 5]) (ok:=fun _=>True) (okp:=fun _=>True) ?hr ?hp (fun _ hk=>hk) trivial (Below.refl _ _) (Nat.le_refl _) (by simp) ?_;(case hd=>rfl);(case hg=>rfl);(case hr=>first|(go_simp;done)|(go_simp;rfl));(case hp=>exact (Reps.one (show Kd.M (Kd.int .i64) _ _ _ 3 [.int .i64 3] from rfl) (Reps.one (show Kd.M (Kd.int .i64) _ _ _ 3 [.int .i64 3] from rfl) (Reps.one (show Kd.M (Kd.int .i64) _ _ _ 3 [.int .i64 3] from rfl) (Reps.one (show Kd.M (Kd.int .i64) _ _ _ 5 [.int .i64 5] from rfl) (Reps.one (show Kd.M (Kd.int .i64) _ _ _ 5 [.int .i64 5] from rfl) (Reps.none _ _)))))));intro v185 w19 ho20 hb hg_ hnew_;clear hg_ hnew_;(first|rw [← Ny184.out] at ho20|(simp only [Int.reduceToNat] at ho20;rw [← Ny184.out] at ho20));have n0_:=Aside0.mk (Kd.R_below (rowV HO_1.out) hb);have n1_:=Aside0.mk (Kd.R_elder' (rowV HO182.out) (Kd.R_base ho20) hb);have n2_:=Aside0.mk (Kd.R_lower (Kd.R_new' ho20 (Kd.R_lt (rowV HO182.out))) (below_size (belV HB.out)));have n3_:=Aside0.mk (below_step (belV HB.out) hb);clear HO_1;clear HO182;clear HB;have HO_1:=n0_;have HO182:=n1_;have HO186:=n2_;have HB:=n3_;clear n0_ n1_ n2_ n3_;clear hb ho20;obtain ⟨Ao21,co21,eo21⟩:=Kd.R_slice HO182.out;subst eo21;obtain ⟨Ao22,co22,eo22⟩:=Kd.R_slice HO186.out;subst eo22)|(go_at_call 15;(with_reducible refine (dioramaref00_EqInts.calls kj1 _ _ t180 _ _ y184 t187 _ ?side1 ?side2 ?side3 ?side4 A16.out).mono ?_);(case side1=>exact cV (Kd.R_reads' HO182.out).2.2);(case side2=>exact (Kd.R_reads' HO182.out).2.1);(case side3=>exact cV (Kd.R_reads' HO186.out).2.2);(case side4=>exact (Kd.R_reads' HO186.out).2.1);rintro e w' ⟨rfl,⟨nd,rfl⟩⟩))
     go_ret
     exact ⟨by first|rfl|(simp [errW_none,errW_some] <;> rfl)|(simp [*,errW_none,errW_some] <;> rfl),by repeat (first|(with_reducible first|exact HB.out|apply below_alloc|apply pw_below_drewN|apply below_drew1)|exact HB.out)⟩
   rw [if_neg c15] at H
   have c15b0:(t183 == 0)=false:=beq_eq_false_iff_ne.mpr c15
   have c15b1:(t183 != 0)=true:=bne_iff_ne.mpr c15
   obtain rfl:=Option.some.inj H
   obtain ⟨Ao23,co23,eo23⟩:=Kd.R_slice HO_1.out;subst eo23
   go_wp2_with (first|((with_reducible refine gate_callee (f:=14) rfl ?_);refine goesL_ (some 20) rfl rfl Try.func14 (by kernel_rfl) rfl #[.slice Ao23 t172.length co23,.int .i64 5,.int .i64 1] rfl (by (try simp only [List.map_toArray,List.map_cons,List.map_nil]);first|done|rfl|(simp only [List.length_drop,List.length_take];rfl)) ?_;(with_reducible refine (bitmap_Pixels.calls kj1 (fun k_=>some k_=(.slice Ao23 t172.length co23:Value).ownBlock) _ _ t172 5 1 t180 t183 _ ?side1 A14.out).mono ?_);(case side1=>exact Kd.R_V (Kd.R_tight rfl (HO_1.out)));rintro e w24 ⟨v181,rfl,ho0,hb⟩;refine ⟨_,rfl,?_⟩;have n0_:=Aside0.mk (Kd.R_below (rowV HO_1.out) hb);have n1_:=Aside0.mk (Kd.R_lower (Kd.R_mono (ok':=fun k_=>True) ho0 (fun _ hk_=>trivial)) (below_size (belV HB.out)));have n2_:=Aside0.mk (below_step (belV HB.out) hb);clear HO_1;clear HB;have HO_1:=n0_;have HO182:=n1_;have HB:=n2_;clear n0_ n1_ n2_;(try clear hb);(try clear hb2);(try clear hk);(try clear hi);(try clear ho0)))
   go_ret
   exact ⟨by first|rfl|(simp [errW_none,errW_some] <;> rfl)|(simp [*,errW_none,errW_some] <;> rfl),by repeat (first|(with_reducible first|exact HB.out|apply below_alloc|apply pw_below_drewN|apply below_drew1)|exact HB.out)⟩

/-! ### dioramalaw19_same: function 21 -/
def dioramalaw19_same.f (k : Nat) (a0_0 : Int) (a0_1 : Int) (l0_2 : List Int) (l0_3 : List Int) (a1_0 : Int) (a1_1 : Int) (l1_2 : List Int) (l1_3 : List Int) : Option (Bool) := if a0_0 = a1_0 then (if a0_1 = a1_1 then ((dioramaref00_EqInts.f k l0_2 l1_2).bind fun t190 => (if t190 = true then ((dioramaref00_EqInts.f k l0_3 l1_3).bind fun t191 => (some t191)) else (some false))) else (some false)) else (some false)
theorem dioramalaw19_same.mono:∀ a0 a1 a2 a3 a4 a5 a6 a7 k,LeO (dioramalaw19_same.f k a0 a1 a2 a3 a4 a5 a6 a7) (dioramalaw19_same.f (k+1) a0 a1 a2 a3 a4 a5 a6 a7):=by
 intro a0 a1 a2 a3 a4 a5 a6 a7 k
 unfold dioramalaw19_same.f
 repeat' first
  | (with_reducible exact dioramaref00_EqInts.mono _ _ _)
  | (with_reducible exact LeO.refl _)
  | (with_reducible exact LeO.none _)
  | (with_reducible refine LeO.ite ?_ ?_)
  | (with_reducible refine LeO.bind ?_ (fun _=>?_))
  | exact LeO.none _
  | refine LeO.ite ?_ ?_
  | refine LeO.bind ?_ (fun _=>?_)
set_option maxHeartbeats 8000000 in
set_option maxRecDepth 100000 in
theorem dioramalaw19_same.calls (k:Nat) (a0_0:Int) (a0_1:Int) (A0_2:Option Addr) (c0_2:Nat) (l0_2:List Int) (A0_3:Option Addr) (c0_3:Nat) (l0_3:List Int) (a1_0:Int) (a1_1:Int) (A1_2:Option Addr) (c1_2:Nat) (l1_2:List Int) (A1_3:Option Addr) (c1_3:Nat) (l1_3:List Int) (r:Bool) (w:World) (hr0_2:Kd.C (Kd.int .i64) w A0_2 l0_2.length l0_2) (hc0_2:l0_2.length≤c0_2) (hr0_3:Kd.C (Kd.int .i64) w A0_3 l0_3.length l0_3) (hc0_3:l0_3.length≤c0_3) (hr1_2:Kd.C (Kd.int .i64) w A1_2 l1_2.length l1_2) (hc1_2:l1_2.length≤c1_2) (hr1_3:Kd.C (Kd.int .i64) w A1_3 l1_3.length l1_3) (hc1_3:l1_3.length≤c1_3) (h:dioramalaw19_same.f k a0_0 a0_1 l0_2 l0_3 a1_0 a1_1 l1_2 l1_3=some r) :
 Calls Try.prog 21 #[.agg #[.int .i64 a0_0,.int .i64 a0_1,.slice A0_2 l0_2.length c0_2,.slice A0_3 l0_3.length c0_3],.agg #[.int .i64 a1_0,.int .i64 a1_1,.slice A1_2 l1_2.length c1_2,.slice A1_3 l1_3.length c1_3]] w fun e w'=>e=.returned (.bool r)∧Below w.heap.size w w':=by
 have hu41:=Try.underlying41
 have HR0_2:=Aside0.mk hr0_2
 have HC0_2:=Aside0.mk hc0_2;clear hr0_2 hc0_2
 have HR0_3:=Aside0.mk hr0_3
 have HC0_3:=Aside0.mk hc0_3;clear hr0_3 hc0_3
 have HR1_2:=Aside0.mk hr1_2
 have HC1_2:=Aside0.mk hc1_2;clear hr1_2 hc1_2
 have HR1_3:=Aside0.mk hr1_3
 have HC1_3:=Aside0.mk hc1_3;clear hr1_3 hc1_3;have HB:=Aside0.mk (Below.refl w.heap.size w)
 have H:(if a0_0=a1_0 then (if a0_1=a1_1 then ((dioramaref00_EqInts.f k l0_2 l1_2).bind fun t190=>(if t190=true then ((dioramaref00_EqInts.f k l0_3 l1_3).bind fun t191=>(some t191)) else (some false))) else (some false)) else (some false))=some r:=h;clear h
 by_cases c3:a0_0=a1_0
 · rw [if_pos c3] at H
   have c3b0:(a0_0 == a1_0)=true:=beq_iff_eq.mpr c3
   have c3b1:(a0_0 != a1_0)=false:=bne_eq_false_iff_eq.mpr c3;clear c3
   by_cases c4:a0_1=a1_1
   · rw [if_pos c4] at H
     have c4b0:(a0_1 == a1_1)=true:=beq_iff_eq.mpr c4
     have c4b1:(a0_1 != a1_1)=false:=bne_eq_false_iff_eq.mpr c4;clear c4
     replace H:=Option.bind_eq_some_iff.mp H
     obtain ⟨t190,A50,H⟩:=H
     replace H:(if t190=true then ((dioramaref00_EqInts.f k l0_3 l1_3).bind fun t191=>(some t191)) else (some false))=some r:=H
     have A5:=Aside0.mk A50;clear A50
     by_cases c6:t190=true
     · subst c6
       have H1:((dioramaref00_EqInts.f k l0_3 l1_3).bind fun t191=>(some t191))=some r:=by rw [if_pos rfl] at H;exact H
       clear H
       have H:=H1;clear H1
       replace H:=Option.bind_eq_some_iff.mp H
       obtain ⟨t191,A70,H⟩:=H
       replace H:(some t191)=some r:=H
       have A7:=Aside0.mk A70;clear A70
       obtain rfl:=Option.some.inj H
       go_enter Try.func21,Try.ntmps21
       go_wp2_with (first|((with_reducible refine gate_dst (N:=2) rfl ?_);refine box_event ?hg (N:=2) ?hd (cs:=#[.int .i64 a0_0,.int .i64 a0_1,.slice A0_2 l0_2.length c0_2,.slice A0_3 l0_3.length c0_3]) (t:=41) ?hr ?_;(case hd=>rfl);(case hg=>rfl);(case hr=>first|(go_simp;done)|(go_simp;rfl));intro gb188 hg w8 hbox hb;have n0_:=Aside0.mk (below_step (belV HB.out) hb);have n1_:=Aside0.mk (hbox);have n2_:=Aside0.mk ((by rw [hg];exact (below_size (belV HB.out)):w.heap.size≤gb188));have n3_:=Aside0.mk ((by rw [hg];exact (below_size (belV HB.out)):w.heap.size≤gb188));clear HB;have HB:=n0_;have BK188:=n1_;have GW188:=n2_;have GE188:=n3_;clear n0_ n1_ n2_ n3_;clear hb hbox hg)|((with_reducible refine gate_dst (N:=3) rfl ?_);refine box_event ?hg (N:=3) ?hd (cs:=#[.int .i64 a1_0,.int .i64 a1_1,.slice A1_2 l1_2.length c1_2,.slice A1_3 l1_3.length c1_3]) (t:=41) ?hr ?_;(case hd=>rfl);(case hg=>rfl);(case hr=>first|(go_simp;done)|(go_simp;rfl));intro gb189 hg w9 hbox hb;have n0_:=Aside0.mk (blk_below (g:=gb188) (blkV BK188.out) hb);have n1_:=Aside0.mk (below_step (belV1 HB.out GE188.out) hb);have n2_:=Aside0.mk (hbox);have n3_:=Aside0.mk ((by rw [hg];exact (below_size (belV1 HB.out GE188.out)):w.heap.size≤gb189));have n4_:=Aside0.mk ((by rw [hg];exact (below_size (belV1 HB.out GE188.out)):w.heap.size≤gb189));have n5_:=Aside0.mk ((by rw [hg];exact Nat.ne_of_lt (blk_lt (g:=gb188) (blkV BK188.out)):gb188≠gb189));have n6_:=Aside0.mk ((by rw [hg];exact Nat.ne_of_gt (blk_lt (g:=gb188) (blkV BK188.out)):gb189≠gb188));clear BK188;clear HB;have BK188:=n0_;have HB:=n1_;have BK189:=n2_;have GW189:=n3_;have GE189:=n4_;have NB188_189:=n5_;have NB189_188:=n6_;clear n0_ n1_ n2_ n3_ n4_ n5_ n6_;clear hb hbox hg;have hnb10:=NB188_189.out;have hnc10:=NB189_188.out;obtain ⟨hcz11_0,hcz11_1,hcz11_2,hcz11_3,hfz11_0,hfz11_1,hfz11_2,hfz11_3⟩:=bcells4 BK188.out;obtain ⟨hcz12_0,hcz12_1,hcz12_2,hcz12_3,hfz12_0,hfz12_1,hfz12_2,hfz12_3⟩:=bcells4 BK189.out)|(go_at_call 15;(with_reducible refine (dioramaref00_EqInts.calls k _ _ l0_2 _ _ l1_2 true _ ?side1 ?side2 ?side3 ?side4 A5.out).mono ?_);(case side1=>exact cV (Kd.C_below HR0_2.out HB.out));(case side2=>exact HC0_2.out);(case side3=>exact cV (Kd.C_below HR1_2.out HB.out));(case side4=>exact HC1_2.out);rintro e w' ⟨rfl,⟨nd,rfl⟩⟩)|(go_at_call 15;(with_reducible refine (dioramaref00_EqInts.calls k _ _ l0_3 _ _ l1_3 t191 _ ?side1 ?side2 ?side3 ?side4 A7.out).mono ?_);(case side1=>repeat (first|exact (Kd.C_below HR0_3.out (belV2 HB.out GE188.out GE189.out))|(with_reducible refine Kd.C_alloc ?_ _)|(with_reducible refine Kd.C_drewN ?_ _)|(with_reducible refine Kd.C_drew ?_)));(case side2=>exact HC0_3.out);(case side3=>repeat (first|exact (Kd.C_below HR1_3.out (belV2 HB.out GE188.out GE189.out))|(with_reducible refine Kd.C_alloc ?_ _)|(with_reducible refine Kd.C_drewN ?_ _)|(with_reducible refine Kd.C_drew ?_)));(case side4=>exact HC1_3.out);rintro e w' ⟨rfl,⟨nd,rfl⟩⟩))
       go_ret
       exact ⟨by first|rfl|(simp [errW_none,errW_some] <;> rfl)|(simp [*,errW_none,errW_some] <;> rfl),by repeat (first|(with_reducible first|exact HB.out|apply below_alloc|apply pw_below_drewN|apply below_drew1|refine below_set ?_ GE188.out|refine below_set ?_ GE189.out)|exact HB.out)⟩
     replace c6:=Bool.eq_false_iff.mpr c6;subst c6
     have H1:(some false)=some r:=by rw [if_neg (show ¬ (false=true) by decide)] at H;exact H
     clear H
     have H:=H1;clear H1
     obtain rfl:=Option.some.inj H
     go_enter Try.func21,Try.ntmps21
     go_wp2_with (first|((with_reducible refine gate_dst (N:=2) rfl ?_);refine box_event ?hg (N:=2) ?hd (cs:=#[.int .i64 a0_0,.int .i64 a0_1,.slice A0_2 l0_2.length c0_2,.slice A0_3 l0_3.length c0_3]) (t:=41) ?hr ?_;(case hd=>rfl);(case hg=>rfl);(case hr=>first|(go_simp;done)|(go_simp;rfl));intro gb188 hg w13 hbox hb;have n0_:=Aside0.mk (below_step (belV HB.out) hb);have n1_:=Aside0.mk (hbox);have n2_:=Aside0.mk ((by rw [hg];exact (below_size (belV HB.out)):w.heap.size≤gb188));have n3_:=Aside0.mk ((by rw [hg];exact (below_size (belV HB.out)):w.heap.size≤gb188));clear HB;have HB:=n0_;have BK188:=n1_;have GW188:=n2_;have GE188:=n3_;clear n0_ n1_ n2_ n3_;clear hb hbox hg)|((with_reducible refine gate_dst (N:=3) rfl ?_);refine box_event ?hg (N:=3) ?hd (cs:=#[.int .i64 a1_0,.int .i64 a1_1,.slice A1_2 l1_2.length c1_2,.slice A1_3 l1_3.length c1_3]) (t:=41) ?hr ?_;(case hd=>rfl);(case hg=>rfl);(case hr=>first|(go_simp;done)|(go_simp;rfl));intro gb189 hg w14 hbox hb;have n0_:=Aside0.mk (blk_below (g:=gb188) (blkV BK188.out) hb);have n1_:=Aside0.mk (below_step (belV1 HB.out GE188.out) hb);have n2_:=Aside0.mk (hbox);have n3_:=Aside0.mk ((by rw [hg];exact (below_size (belV1 HB.out GE188.out)):w.heap.size≤gb189));have n4_:=Aside0.mk ((by rw [hg];exact (below_size (belV1 HB.out GE188.out)):w.heap.size≤gb189));have n5_:=Aside0.mk ((by rw [hg];exact Nat.ne_of_lt (blk_lt (g:=gb188) (blkV BK188.out)):gb188≠gb189));have n6_:=Aside0.mk ((by rw [hg];exact Nat.ne_of_gt (blk_lt (g:=gb188) (blkV BK188.out)):gb189≠gb188));clear BK188;clear HB;have BK188:=n0_;have HB:=n1_;have BK189:=n2_;have GW189:=n3_;have GE189:=n4_;have NB188_189:=n5_;have NB189_188:=n6_;clear n0_ n1_ n2_ n3_ n4_ n5_ n6_;clear hb hbox hg;have hnb15:=NB188_189.out;have hnc15:=NB189_188.out;obtain ⟨hcz16_0,hcz16_1,hcz16_2,hcz16_3,hfz16_0,hfz16_1,hfz16_2,hfz16_3⟩:=bcells4 BK188.out;obtain ⟨hcz17_0,hcz17_1,hcz17_2,hcz17_3,hfz17_0,hfz17_1,hfz17_2,hfz17_3⟩:=bcells4 BK189.out)|(go_at_call 15;(with_reducible refine (dioramaref00_EqInts.calls k _ _ l0_2 _ _ l1_2 false _ ?side1 ?side2 ?side3 ?side4 A5.out).mono ?_);(case side1=>exact cV (Kd.C_below HR0_2.out HB.out));(case side2=>exact HC0_2.out);(case side3=>exact cV (Kd.C_below HR1_2.out HB.out));(case side4=>exact HC1_2.out);rintro e w' ⟨rfl,⟨nd,rfl⟩⟩))
     go_ret
     exact ⟨by first|rfl|(simp [errW_none,errW_some] <;> rfl)|(simp [*,errW_none,errW_some] <;> rfl),by repeat (first|(with_reducible first|exact HB.out|apply below_alloc|apply pw_below_drewN|apply below_drew1|refine below_set ?_ GE188.out|refine below_set ?_ GE189.out)|exact HB.out)⟩
   rw [if_neg c4] at H
   have c4b0:(a0_1 == a1_1)=false:=beq_eq_false_iff_ne.mpr c4
   have c4b1:(a0_1 != a1_1)=true:=bne_iff_ne.mpr c4
   obtain rfl:=Option.some.inj H
   go_enter Try.func21,Try.ntmps21
   go_wp2_with (first|((with_reducible refine gate_dst (N:=2) rfl ?_);refine box_event ?hg (N:=2) ?hd (cs:=#[.int .i64 a0_0,.int .i64 a0_1,.slice A0_2 l0_2.length c0_2,.slice A0_3 l0_3.length c0_3]) (t:=41) ?hr ?_;(case hd=>rfl);(case hg=>rfl);(case hr=>first|(go_simp;done)|(go_simp;rfl));intro gb188 hg w18 hbox hb;have n0_:=Aside0.mk (below_step (belV HB.out) hb);have n1_:=Aside0.mk (hbox);have n2_:=Aside0.mk ((by rw [hg];exact (below_size (belV HB.out)):w.heap.size≤gb188));have n3_:=Aside0.mk ((by rw [hg];exact (below_size (belV HB.out)):w.heap.size≤gb188));clear HB;have HB:=n0_;have BK188:=n1_;have GW188:=n2_;have GE188:=n3_;clear n0_ n1_ n2_ n3_;clear hb hbox hg)|((with_reducible refine gate_dst (N:=3) rfl ?_);refine box_event ?hg (N:=3) ?hd (cs:=#[.int .i64 a1_0,.int .i64 a1_1,.slice A1_2 l1_2.length c1_2,.slice A1_3 l1_3.length c1_3]) (t:=41) ?hr ?_;(case hd=>rfl);(case hg=>rfl);(case hr=>first|(go_simp;done)|(go_simp;rfl));intro gb189 hg w19 hbox hb;have n0_:=Aside0.mk (blk_below (g:=gb188) (blkV BK188.out) hb);have n1_:=Aside0.mk (below_step (belV1 HB.out GE188.out) hb);have n2_:=Aside0.mk (hbox);have n3_:=Aside0.mk ((by rw [hg];exact (below_size (belV1 HB.out GE188.out)):w.heap.size≤gb189));have n4_:=Aside0.mk ((by rw [hg];exact (below_size (belV1 HB.out GE188.out)):w.heap.size≤gb189));have n5_:=Aside0.mk ((by rw [hg];exact Nat.ne_of_lt (blk_lt (g:=gb188) (blkV BK188.out)):gb188≠gb189));have n6_:=Aside0.mk ((by rw [hg];exact Nat.ne_of_gt (blk_lt (g:=gb188) (blkV BK188.out)):gb189≠gb188));clear BK188;clear HB;have BK188:=n0_;have HB:=n1_;have BK189:=n2_;have GW189:=n3_;have GE189:=n4_;have NB188_189:=n5_;have NB189_188:=n6_;clear n0_ n1_ n2_ n3_ n4_ n5_ n6_;clear hb hbox hg;have hnb20:=NB188_189.out;have hnc20:=NB189_188.out;obtain ⟨hcz21_0,hcz21_1,hcz21_2,hcz21_3,hfz21_0,hfz21_1,hfz21_2,hfz21_3⟩:=bcells4 BK188.out;obtain ⟨hcz22_0,hcz22_1,hcz22_2,hcz22_3,hfz22_0,hfz22_1,hfz22_2,hfz22_3⟩:=bcells4 BK189.out))
   go_ret
   exact ⟨by first|rfl|(simp [errW_none,errW_some] <;> rfl)|(simp [*,errW_none,errW_some] <;> rfl),by repeat (first|(with_reducible first|exact HB.out|apply below_alloc|apply pw_below_drewN|apply below_drew1|refine below_set ?_ GE188.out|refine below_set ?_ GE189.out)|exact HB.out)⟩
 rw [if_neg c3] at H
 have c3b0:(a0_0 == a1_0)=false:=beq_eq_false_iff_ne.mpr c3
 have c3b1:(a0_0 != a1_0)=true:=bne_iff_ne.mpr c3
 obtain rfl:=Option.some.inj H
 go_enter Try.func21,Try.ntmps21
 go_wp2_with (first|((with_reducible refine gate_dst (N:=2) rfl ?_);refine box_event ?hg (N:=2) ?hd (cs:=#[.int .i64 a0_0,.int .i64 a0_1,.slice A0_2 l0_2.length c0_2,.slice A0_3 l0_3.length c0_3]) (t:=41) ?hr ?_;(case hd=>rfl);(case hg=>rfl);(case hr=>first|(go_simp;done)|(go_simp;rfl));intro gb188 hg w23 hbox hb;have n0_:=Aside0.mk (below_step (belV HB.out) hb);have n1_:=Aside0.mk (hbox);have n2_:=Aside0.mk ((by rw [hg];exact (below_size (belV HB.out)):w.heap.size≤gb188));have n3_:=Aside0.mk ((by rw [hg];exact (below_size (belV HB.out)):w.heap.size≤gb188));clear HB;have HB:=n0_;have BK188:=n1_;have GW188:=n2_;have GE188:=n3_;clear n0_ n1_ n2_ n3_;clear hb hbox hg)|((with_reducible refine gate_dst (N:=3) rfl ?_);refine box_event ?hg (N:=3) ?hd (cs:=#[.int .i64 a1_0,.int .i64 a1_1,.slice A1_2 l1_2.length c1_2,.slice A1_3 l1_3.length c1_3]) (t:=41) ?hr ?_;(case hd=>rfl);(case hg=>rfl);(case hr=>first|(go_simp;done)|(go_simp;rfl));intro gb189 hg w24 hbox hb;have n0_:=Aside0.mk (blk_below (g:=gb188) (blkV BK188.out) hb);have n1_:=Aside0.mk (below_step (belV1 HB.out GE188.out) hb);have n2_:=Aside0.mk (hbox);have n3_:=Aside0.mk ((by rw [hg];exact (below_size (belV1 HB.out GE188.out)):w.heap.size≤gb189));have n4_:=Aside0.mk ((by rw [hg];exact (below_size (belV1 HB.out GE188.out)):w.heap.size≤gb189));have n5_:=Aside0.mk ((by rw [hg];exact Nat.ne_of_lt (blk_lt (g:=gb188) (blkV BK188.out)):gb188≠gb189));have n6_:=Aside0.mk ((by rw [hg];exact Nat.ne_of_gt (blk_lt (g:=gb188) (blkV BK188.out)):gb189≠gb188));clear BK188;clear HB;have BK188:=n0_;have HB:=n1_;have BK189:=n2_;have GW189:=n3_;have GE189:=n4_;have NB188_189:=n5_;have NB189_188:=n6_;clear n0_ n1_ n2_ n3_ n4_ n5_ n6_;clear hb hbox hg;have hnb25:=NB188_189.out;have hnc25:=NB189_188.out;obtain ⟨hcz26_0,hcz26_1,hcz26_2,hcz26_3,hfz26_0,hfz26_1,hfz26_2,hfz26_3⟩:=bcells4 BK188.out;obtain ⟨hcz27_0,hcz27_1,hcz27_2,hcz27_3,hfz27_0,hfz27_1,hfz27_2,hfz27_3⟩:=bcells4 BK189.out))
 go_ret
 exact ⟨by first|rfl|(simp [errW_none,errW_some] <;> rfl)|(simp [*,errW_none,errW_some] <;> rfl),by repeat (first|(with_reducible first|exact HB.out|apply below_alloc|apply pw_below_drewN|apply below_drew1|refine below_set ?_ GE188.out|refine below_set ?_ GE189.out)|exact HB.out)⟩

/-! ### dioramalaw19_ours: function 22 -/
def dioramalaw19_ours.f (a0_0 : Int) (a0_1 : Int) (l0_2 : List Int) (l0_3 : List Int) : Option (Int) := some 0
theorem dioramalaw19_ours.calls (a0_0 : Int) (a0_1 : Int) (A0_2 : Option Addr) (c0_2 : Nat) (l0_2 : List Int) (A0_3 : Option Addr) (c0_3 : Nat) (l0_3 : List Int) (r : Int) (w : World) (hr0_2 : Kd.C (Kd.int .i64) w A0_2 l0_2.length l0_2) (hc0_2 : l0_2.length ≤ c0_2) (hr0_3 : Kd.C (Kd.int .i64) w A0_3 l0_3.length l0_3) (hc0_3 : l0_3.length ≤ c0_3) (h : dioramalaw19_ours.f a0_0 a0_1 l0_2 l0_3 = some r) :
    Calls Try.prog 22 #[.agg #[.int .i64 a0_0, .int .i64 a0_1, .slice A0_2 l0_2.length c0_2, .slice A0_3 l0_3.length c0_3]] w fun e w' => e = .returned (.agg #[.int .i64 a0_0, .int .i64 a0_1, .slice A0_2 l0_2.length c0_2, .slice A0_3 l0_3.length c0_3]) ∧ Below w.heap.size w w' := by
  clear hr0_2 hc0_2 hr0_3 hc0_3 h
  generalize l0_2.length = n2
  generalize l0_3.length = n3
  go_enter Try.func22, Try.ntmps22
  go_wp2
  exact bodyPost_ret (v := .agg #[.int .i64 a0_0, .int .i64 a0_1, .slice A0_2 n2 c0_2, .slice A0_3 n3 c0_3]) (by simp [results, Try.results22, go_sem]) rfl ⟨rfl, by repeat (first | exact Below.refl _ _ | (with_reducible apply below_alloc) | (with_reducible apply below_drew1))⟩

/-! ### dioramalaw19_small: function 25 -/
def dioramalaw19_small.l0 : Nat → Int → Bool → List Int → List (S91) → Option (Bool)
 | 0,_,_,_,_=>none
 | k+1,x3,x193000,x193001,x193002=>if x3 < (x193002.length:Int) then (if 0≤x3 then (if (((rd_T91 x193002 x3).f4).length:Int) > 5000 then (some false) else (dioramalaw19_small.l0 k (wrap64 (x3+1)) x193000 x193001 x193002)) else (none)) else (if (x193002.length:Int)≤20 then (some (decide ((x193001.length:Int)≤100))) else (some false))
def dioramalaw19_small.f (k : Nat) (a0_0 : Bool) (l0_1 : List Int) (l0_2 : List (S91)) : Option (Bool) := dioramalaw19_small.l0 k 0 a0_0 l0_1 l0_2
theorem dioramalaw19_small.mono_l:∀ k,(∀ y0 y1 y2 y3,LeO (dioramalaw19_small.l0 k y0 y1 y2 y3) (dioramalaw19_small.l0 (k+1) y0 y1 y2 y3))
 | 0=>fun _ _ _ _ r h=>by simp [dioramalaw19_small.l0] at h
 | k+1=>by
  have ih0:=dioramalaw19_small.mono_l k
  · intro y0 y1 y2 y3
    unfold dioramalaw19_small.l0
    repeat' first
    | (with_reducible exact ih0 _ _ _ _)
    | (with_reducible exact LeO.refl _)
    | (with_reducible exact LeO.none _)
    | (with_reducible refine LeO.ite ?_ ?_)
    | (with_reducible refine LeO.bind ?_ (fun _=>?_))
    | exact LeO.none _
    | refine LeO.ite ?_ ?_
    | refine LeO.bind ?_ (fun _=>?_)
theorem dioramalaw19_small.mono:∀ a0 a1 a2 k,LeO (dioramalaw19_small.f k a0 a1 a2) (dioramalaw19_small.f (k+1) a0 a1 a2):=by
 intro a0 a1 a2 k
 have ih0:=dioramalaw19_small.mono_l k
 unfold dioramalaw19_small.f
 repeat' first
  | (with_reducible exact ih0 _ _ _ _)
  | (with_reducible exact LeO.refl _)
  | (with_reducible exact LeO.none _)
  | (with_reducible refine LeO.ite ?_ ?_)
  | (with_reducible refine LeO.bind ?_ (fun _=>?_))
  | exact LeO.none _
  | refine LeO.ite ?_ ?_
  | refine LeO.bind ?_ (fun _=>?_)
set_option maxHeartbeats 8000000 in
set_option maxRecDepth 100000 in
theorem dioramalaw19_small.calls (k:Nat) (a0_0:Bool) (A0_1:Option Addr) (c0_1:Nat) (l0_1:List Int) (A0_2:Option Addr) (c0_2:Nat) (l0_2:List (S91)) (r:Bool) (w:World) (hr0_1:Kd.C (Kd.int .i64) w A0_1 l0_1.length l0_1) (hc0_1:l0_1.length≤c0_1) (hr0_2:Kd.C k91 w A0_2 l0_2.length l0_2) (hc0_2:l0_2.length≤c0_2) (h:dioramalaw19_small.f k a0_0 l0_1 l0_2=some r) :
 Calls Try.prog 25 #[.agg #[.bool a0_0,.slice A0_1 l0_1.length c0_1,.slice A0_2 l0_2.length c0_2]] w fun e w'=>e=.returned (.bool r)∧Below w.heap.size w w':=by
 have hu51:=Try.underlying51
 have HR0_1:=Aside0.mk hr0_1
 have HC0_1:=Aside0.mk hc0_1;clear hr0_1 hc0_1
 have HR0_2:=Aside0.mk hr0_2
 have HC0_2:=Aside0.mk hc0_2;clear hr0_2 hc0_2;have HB:=Aside0.mk (Below.refl w.heap.size w)
 have H:(dioramalaw19_small.l0 k 0 a0_0 l0_1 l0_2)=some r:=h;clear h
 have H':=Aside0.mk H;clear H
 go_enter Try.func25,Try.ntmps25
 go_wp2_with (first|((with_reducible refine gate_dst (N:=1) rfl ?_);(try (refine gate_guard (by rfl) ?_;dsimp only));refine box_event ?hg (N:=1) ?hd (cs:=#[.bool a0_0,.slice A0_1 l0_1.length c0_1,.slice A0_2 l0_2.length c0_2]) (t:=51) ?hr ?_;(case hd=>rfl);(case hg=>rfl);(case hr=>first|(go_simp;done)|(go_simp;rfl));intro gb192 hg w2 hbox hb;have n0_:=Aside0.mk (below_step (belV HB.out) hb);have n1_:=Aside0.mk (hbox);have n2_:=Aside0.mk ((by rw [hg];exact (below_size (belV HB.out)):w.heap.size≤gb192));have n3_:=Aside0.mk ((by rw [hg];exact (below_size (belV HB.out)):w.heap.size≤gb192));clear HB;have HB:=n0_;have BK192:=n1_;have GW192:=n2_;have GE192:=n3_;clear n0_ n1_ n2_ n3_;clear hb hbox hg))
 go_loopg [3] k (fun kq v3 w'=>∃ (x3_1:Int),v3=.int .i64 x3_1∧Aside0 (dioramalaw19_small.l0 kq x3_1 a0_0 l0_1 l0_2=some r)∧Aside0 (kq≤k)∧Aside0 (w'.heap[gb192]?=some (.cells #[.bool a0_0,(.slice A0_1 l0_1.length c0_1),(.slice A0_2 l0_2.length c0_2)] 51 (0,0)))∧Aside0 (Below w.heap.size w w'))
 case atStart=>exact ⟨(0),okV,H',⟨Nat.le_refl _⟩,⟨blkV BK192.out⟩,⟨belV1 HB.out GE192.out⟩⟩
 case round =>
  clear H'
  try clear c2;try clear p2
  obtain ⟨x3_1,rfl,HA,HK1,BK192,HB⟩:=hrel
  cases gk with
  | zero=>exact absurd HA.out (by simp [dioramalaw19_small.l0])
  | succ k1 =>
   have H:=HA.out;clear HA
   simp only [dioramalaw19_small.l0] at H
   by_cases c3:x3_1 < (l0_2.length:Int)
   · rw [if_pos c3] at H
     have c3b0:decide (x3_1 < (l0_2.length:Int))=true:=decide_eq_true c3;clear c3
     by_cases c4:0≤x3_1
     · rw [if_pos c4] at H
       have c4b0:decide (0≤x3_1)=true:=decide_eq_true c4;clear c4
       by_cases c5:(((rd_T91 l0_2 x3_1).f4).length:Int) > 5000
       · rw [if_pos c5] at H
         have c5b0:decide (5000 < (((rd_T91 l0_2 x3_1).f4).length:Int))=true:=decide_eq_true c5
         have c5b1:decide (5000 < ((rd_T91 l0_2 x3_1).f4).length)=true:=decide_eq_true (by omega);clear c5
         obtain rfl:=Option.some.inj H
         obtain ⟨hcz6_0,hcz6_1,hcz6_2,hfz6_0,hfz6_1,hfz6_2⟩:=bcells3 BK192.out
         have p193:0≤(x3_1:Int):=of_decide_eq_true asV
         have q193:x3_1 < (l0_2.length:Int):=of_decide_eq_true asV
         obtain ⟨ad193,A193_4,c193_4,e193,hx193_0,hx193_1,hx193_2,hx193_3,hx193_4,hl193_4,hi193_4⟩:=at_T91 HR0_2.out x3_1 p193 q193
         cases e193
         replace hx193_0:=(HB.out.cell (World.block_lt_of_cell? w _ hx193_0)).trans hx193_0
         replace hx193_1:=(HB.out.cell (World.block_lt_of_cell? w _ hx193_1)).trans hx193_1
         replace hx193_2:=(HB.out.cell (World.block_lt_of_cell? w _ hx193_2)).trans hx193_2
         replace hx193_3:=(HB.out.cell (World.block_lt_of_cell? w _ hx193_3)).trans hx193_3
         replace hx193_4:=(HB.out.cell (World.block_lt_of_cell? w _ hx193_4)).trans hx193_4
         have HR193_4:=Aside0.mk hi193_4
         have HC193_4:=Aside0.mk hl193_4;clear hi193_4 hl193_4
         replace p193:=eq_true p193
         replace q193:=eq_true q193
         go_wp2
         go_ret
         exact ⟨by first|rfl|(simp [errW_none,errW_some] <;> rfl)|(simp [*,errW_none,errW_some] <;> rfl),by repeat (first|(with_reducible first|exact HB.out|apply below_alloc|apply pw_below_drewN|apply below_drew1|refine below_set ?_ GE192.out)|exact HB.out)⟩
       rw [if_neg c5] at H
       have c5b0:decide (5000 < (((rd_T91 l0_2 x3_1).f4).length:Int))=false:=decide_eq_false c5
       have c5b1:decide (5000 < ((rd_T91 l0_2 x3_1).f4).length)=false:=decide_eq_false (by omega);clear c5
       have H':=Aside0.mk H;clear H
       obtain ⟨hcz7_0,hcz7_1,hcz7_2,hfz7_0,hfz7_1,hfz7_2⟩:=bcells3 BK192.out
       have p193:0≤(x3_1:Int):=of_decide_eq_true asV
       have q193:x3_1 < (l0_2.length:Int):=of_decide_eq_true asV
       obtain ⟨ad193,A193_4,c193_4,e193,hx193_0,hx193_1,hx193_2,hx193_3,hx193_4,hl193_4,hi193_4⟩:=at_T91 HR0_2.out x3_1 p193 q193
       cases e193
       replace hx193_0:=(HB.out.cell (World.block_lt_of_cell? w _ hx193_0)).trans hx193_0
       replace hx193_1:=(HB.out.cell (World.block_lt_of_cell? w _ hx193_1)).trans hx193_1
       replace hx193_2:=(HB.out.cell (World.block_lt_of_cell? w _ hx193_2)).trans hx193_2
       replace hx193_3:=(HB.out.cell (World.block_lt_of_cell? w _ hx193_3)).trans hx193_3
       replace hx193_4:=(HB.out.cell (World.block_lt_of_cell? w _ hx193_4)).trans hx193_4
       have HR193_4:=Aside0.mk hi193_4
       have HC193_4:=Aside0.mk hl193_4;clear hi193_4 hl193_4
       replace p193:=eq_true p193
       replace q193:=eq_true q193
       go_wp2
       go_roundg k1
       case measure=>have:=HK1.out;omega
       case rel=>exact ⟨(wrap64 (x3_1+1)),okV,H',⟨by have:=HK1.out;omega⟩,⟨blkV BK192.out⟩,⟨belV1 HB.out GE192.out⟩⟩
     rw [if_neg c4] at H
     exact absurd H (by simp)
   rw [if_neg c3] at H
   have c3b0:decide (x3_1 < (l0_2.length:Int))=false:=decide_eq_false c3;clear c3
   by_cases c8:(l0_2.length:Int)≤20
   · rw [if_pos c8] at H
     have c8b0:decide ((l0_2.length:Int)≤20)=true:=decide_eq_true c8
     have c8b1:decide (l0_2.length≤20)=true:=decide_eq_true (by omega);clear c8
     obtain rfl:=Option.some.inj H
     obtain ⟨hcz9_0,hcz9_1,hcz9_2,hfz9_0,hfz9_1,hfz9_2⟩:=bcells3 BK192.out
     go_wp2
     go_ret
     exact ⟨by first|rfl|(simp [errW_none,errW_some] <;> rfl)|(simp [*,errW_none,errW_some] <;> rfl),by repeat (first|(with_reducible first|exact HB.out|apply below_alloc|apply pw_below_drewN|apply below_drew1|refine below_set ?_ GE192.out)|exact HB.out)⟩
   rw [if_neg c8] at H
   have c8b0:decide ((l0_2.length:Int)≤20)=false:=decide_eq_false c8
   have c8b1:decide (l0_2.length≤20)=false:=decide_eq_false (by omega);clear c8
   obtain rfl:=Option.some.inj H
   obtain ⟨hcz10_0,hcz10_1,hcz10_2,hfz10_0,hfz10_1,hfz10_2⟩:=bcells3 BK192.out
   go_wp2
   go_ret
   exact ⟨by first|rfl|(simp [errW_none,errW_some] <;> rfl)|(simp [*,errW_none,errW_some] <;> rfl),by repeat (first|(with_reducible first|exact HB.out|apply below_alloc|apply pw_below_drewN|apply below_drew1|refine below_set ?_ GE192.out)|exact HB.out)⟩

/-! ### dioramaref00_CopyInts: function 64 -/
def dioramaref00_CopyInts.l0 : Nat → List Int → List Int → Int → Option (List Int)
 | 0,_,_,_=>none
 | k+1,x0,x3,x4=>if x4 < (x0.length:Int) then (if 0≤x4 then (if x3.length < 17592186044416 then (dioramaref00_CopyInts.l0 k x0 (x3 ++ [rd x0 x4]) (wrap64 (x4+1))) else (none)) else (none)) else (some x3)
def dioramaref00_CopyInts.f (k : Nat) (l0 : List Int) : Option (List Int) := if 0 ≤ (l0.length : Int) then (if ((l0.length : Int) : Int).toNat ≤ 35184372088832 then (dioramaref00_CopyInts.l0 k l0 (([] : List Int)) 0) else (none)) else (none)
theorem dioramaref00_CopyInts.mono_l:∀ k,(∀ y0 y1 y2,LeO (dioramaref00_CopyInts.l0 k y0 y1 y2) (dioramaref00_CopyInts.l0 (k+1) y0 y1 y2))
 | 0=>fun _ _ _ r h=>by simp [dioramaref00_CopyInts.l0] at h
 | k+1=>by
  have ih0:=dioramaref00_CopyInts.mono_l k
  · intro y0 y1 y2
    unfold dioramaref00_CopyInts.l0
    repeat' first
    | (with_reducible exact ih0 _ _ _)
    | (with_reducible exact LeO.refl _)
    | (with_reducible exact LeO.none _)
    | (with_reducible refine LeO.ite ?_ ?_)
    | (with_reducible refine LeO.bind ?_ (fun _=>?_))
    | exact LeO.none _
    | refine LeO.ite ?_ ?_
    | refine LeO.bind ?_ (fun _=>?_)
theorem dioramaref00_CopyInts.mono:∀ a0 k,LeO (dioramaref00_CopyInts.f k a0) (dioramaref00_CopyInts.f (k+1) a0):=by
 intro a0 k
 have ih0:=dioramaref00_CopyInts.mono_l k
 unfold dioramaref00_CopyInts.f
 repeat' first
  | (with_reducible exact ih0 _ _ _)
  | (with_reducible exact LeO.refl _)
  | (with_reducible exact LeO.none _)
  | (with_reducible refine LeO.ite ?_ ?_)
  | (with_reducible refine LeO.bind ?_ (fun _=>?_))
  | exact LeO.none _
  | refine LeO.ite ?_ ?_
  | refine LeO.bind ?_ (fun _=>?_)
set_option maxHeartbeats 8000000 in
set_option maxRecDepth 100000 in
theorem dioramaref00_CopyInts.calls (k:Nat) (A0:Option Addr) (c0:Nat) (l0:List Int) (r:List Int) (w:World) (hr0:Kd.C (Kd.int .i64) w A0 l0.length l0) (hc0:l0.length≤c0) (h:dioramaref00_CopyInts.f k l0=some r) :
 Calls Try.prog 64 #[.slice A0 l0.length c0] w fun e w'=>∃ v0_:Value,e=.returned (v0_)∧Kd.R (Kd.int .i64) 3 w' w.heap.size (fun _=>True) v0_ r∧Below w.heap.size w w':=by
 have HR0:=Aside0.mk hr0
 have HC0:=Aside0.mk hc0;clear hr0 hc0;have HB:=Aside0.mk (Below.refl w.heap.size w)
 have H:(if 0≤(l0.length:Int) then (if ((l0.length:Int):Int).toNat≤35184372088832 then (dioramaref00_CopyInts.l0 k l0 (([]:List Int)) 0) else (none)) else (none))=some r:=h;clear h
 by_cases c2:0≤(l0.length:Int)
 · rw [if_pos c2] at H
   have c2b0:=eq_true c2
   have c2b1:decide (0≤(l0.length:Int))=true:=decide_eq_true c2;clear c2
   by_cases c3:((l0.length:Int):Int).toNat≤35184372088832
   · rw [if_pos c3] at H
     have c3b0:=eq_true c3
     have c3b1:decide (((l0.length:Int):Int).toNat≤35184372088832)=true:=decide_eq_true c3;clear c3
     obtain ⟨y194,hy194⟩:∃ y_:List Int,y_=(([]:List Int)):=⟨_,rfl⟩
     replace H:(dioramaref00_CopyInts.l0 k l0 y194 0)=some r:=by first|(rw [hy194];with_reducible exact H)|(have H2_:=(Option.bind_some _ _).symm.trans H;rw [hy194];with_reducible exact H2_)|(have H2_:=(Option.bind_some _ _).symm.trans H;with_reducible exact H2_)|with_reducible exact H|(rw [hy194];exact H)|exact H
     have Ny194:=Aside0.mk hy194;clear hy194
     have H':=Aside0.mk H;clear H
     go_enter Try.func64,Try.ntmps64
     go_wp2_with (first|((with_reducible refine gate_dst (N:=7) rfl ?_);refine Kd.R_make0 (Kd.int .i64) _ 3 rfl (N:=7) rfl 22 _ _ rfl (l0.length:Int) rfl rfl Try.underlying22 (.int .i64 0) 8 info3 rfl (by decide) (by omega) 0 (ok:=fun _=>True) (okp:=fun _=>True) rfl (fun _ hk=>hk) trivial (of_decide_eq_true asV) (Nat.le_trans (Nat.mul_le_mul_right _ (of_decide_eq_true asV:(l0.length:Int).toNat≤35184372088832)) (by omega)) (Below.refl _ _) (Nat.le_refl _) ?_;intro v195 w4 ho5 hb hg_ hnew_;clear hg_ hnew_;(first|rw [← Ny194.out] at ho5|(simp only [Int.reduceToNat] at ho5;rw [← Ny194.out] at ho5));have n0_:=Aside0.mk (Kd.R_lower ho5 (below_size (belV HB.out)));have n1_:=Aside0.mk (below_step (belV HB.out) hb);clear HB;have HO196:=n0_;have HB:=n1_;clear n0_ n1_;clear hb ho5))
     go_loopg [3,4] k (fun kq v3 v4 w'=>∃ (x3_1:List Int) (x4_1:Int),v4=.int .i64 x4_1∧Aside0 (dioramaref00_CopyInts.l0 kq l0 x3_1 x4_1=some r)∧Aside0 (kq≤k)∧Aside0 (Kd.R (Kd.int .i64) 3 w' w.heap.size (fun _=>True) v3 x3_1)∧Aside0 (Below w.heap.size w w'))
     case atStart=>exact ⟨(y194),(0),okV,H',⟨Nat.le_refl _⟩,⟨rowV HO196.out⟩,⟨belV HB.out⟩⟩
     case round =>
      clear H'
      try clear c2;try clear c2b0;try clear c2b1;try clear p2;try clear c3;try clear c3b0;try clear c3b1
      obtain ⟨x3_1,x4_1,rfl,HA,HK1,HO_3,HB⟩:=hrel
      cases gk with
      | zero=>exact absurd HA.out (by simp [dioramaref00_CopyInts.l0])
      | succ k1 =>
       have H:=HA.out;clear HA
       simp only [dioramaref00_CopyInts.l0] at H
       by_cases c6:x4_1 < (l0.length:Int)
       · rw [if_pos c6] at H
         have c6b0:decide (x4_1 < (l0.length:Int))=true:=decide_eq_true c6;clear c6
         by_cases c7:0≤x4_1
         · rw [if_pos c7] at H
           have c7b0:decide (0≤x4_1)=true:=decide_eq_true c7;clear c7
           by_cases c8:x3_1.length < 17592186044416
           · rw [if_pos c8] at H
             have LMc8:=Aside0.mk c8;clear c8
             obtain ⟨y198,hy198⟩:∃ y_:List Int,y_=(x3_1 ++ [rd l0 x4_1]):=⟨_,rfl⟩
             replace H:(dioramaref00_CopyInts.l0 k1 l0 y198 (wrap64 (x4_1+1)))=some r:=by first|(rw [hy198];with_reducible exact H)|(have H2_:=(Option.bind_some _ _).symm.trans H;rw [hy198];with_reducible exact H2_)|(have H2_:=(Option.bind_some _ _).symm.trans H;with_reducible exact H2_)|with_reducible exact H|(rw [hy198];exact H)|exact H
             have Ny198:=Aside0.mk hy198;clear hy198
             have H':=Aside0.mk H;clear H
             have p197:0≤(x4_1:Int):=of_decide_eq_true asV
             have q197:x4_1 < (l0.length:Int):=of_decide_eq_true asV
             obtain ⟨ad197,e197,hx197_0⟩:=Kd.at_int HR0.out x4_1 p197 q197
             cases e197
             replace hx197_0:=(HB.out.cell (World.block_lt_of_cell? w _ hx197_0)).trans hx197_0
             replace p197:=eq_true p197
             replace q197:=eq_true q197
             go_wp2_with (first|((with_reducible refine gate_builtin (b:=.append) (xs:=#[.tmp 14,.tmp 19]) rfl ?_);at_builtin;refine Kd.R_append (Kd.int .i64) (w0:=w) w.heap.size rfl (.tmp 14) (.tmp 19) 22 3 (.int .i64 0) 8 rfl Try.underlying22 info3 rfl (by decide) (by omega) u3 x3_1 (rd l0 x4_1) [.int .i64 (rd l0 x4_1)] (fun _=>True) (fun _=>False) rfl rfl ?aP (fun _ hk=>hk.elim) ?aF ?aO ?aB ?aS ?aL ?_;(case aP=>exact rfl);(case aB=>exact (belV HB.out));(case aF=>exact (fun _ _=>trivial));(case aO=>exact (rowV HO_3.out));(case aS=>exact (below_size (belV HB.out)));(case aL=>have:=LMc8.out;omega);intro v199 w9 ho hb hg hat;rw [← Ny198.out] at ho;have n0_:=Aside0.mk (hb);have n1_:=Aside0.mk (ho);clear HB;clear HO_3;have HB:=n0_;have HO200:=n1_;clear n0_ n1_;clear ho hb hg hat))
             go_roundg k1
             case measure=>have:=HK1.out;omega
             case rel=>exact ⟨(y198),(wrap64 (x4_1+1)),okV,H',⟨by have:=HK1.out;omega⟩,⟨rowV HO200.out⟩,⟨belV HB.out⟩⟩
           rw [if_neg c8] at H
           exact absurd H (by simp)
         rw [if_neg c7] at H
         exact absurd H (by simp)
       rw [if_neg c6] at H
       have c6b0:decide (x4_1 < (l0.length:Int))=false:=decide_eq_false c6;clear c6
       obtain rfl:=Option.some.inj H
       go_wp2
       go_ret
       exact ⟨_,by first|rfl|(simp [errW_none,errW_some] <;> rfl)|(simp [*,errW_none,errW_some] <;> rfl),by (with_reducible repeat (first|apply Kd.R_alloc|apply Kd.R_drewN|apply Kd.R_drew));exact HO_3.out,by repeat (first|(with_reducible first|exact HB.out|apply below_alloc|apply pw_below_drewN|apply below_drew1)|exact HB.out)⟩
   rw [if_neg c3] at H
   exact absurd H (by simp)
 rw [if_neg c2] at H
 exact absurd H (by simp)

end Go.Proofs.Ytaebgjdaoloceaa.QBmpD
